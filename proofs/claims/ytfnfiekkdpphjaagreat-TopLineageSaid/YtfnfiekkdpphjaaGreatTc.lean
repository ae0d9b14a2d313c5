/-
  Texts of these claims, joined: Opn Opi Opm Cls Fct Wa Wb Wc Wd We Wf Wg Wp Wt Wu Wy Xd Xf Xi Xn Srt Yd Yq Za Zb Ze Zf Zg Zh.
-/
import Derived.Test.YtfnfiekkdpphjaaGreatTb
import Derived.Test.YtfnfiekkdpphjaaGreatProg
import Derived.KernelRfl
import Derived.OpenShut
import Derived.ProofKit
import Derived.ShutString
import Derived.ChangeOld
import Derived.JoinedOf
import Derived.Shelf.Sort.Plain
import Derived.Shelf.Slices.CompactI
import Derived.Shelf.Slices.In.SortNone
import Derived.Lib.RowBridge
namespace Go.Proofs.YtfnfiekkdpphjaaGreat
open Tryz
abbrev aaq:=Go.MW.Cl Tryz.prog
theorem kP:type_of% @call10:=@call10
theorem gQ:type_of% @call100:=@call100
theorem Y9:type_of% @call139:=@call139
theorem jU:type_of% @call196:=@call196
theorem oI:type_of% @call53:=@call53
theorem uf:type_of% @call75:=@call75
theorem ea:type_of% @isAgg101:=@isAgg101
theorem PL:type_of% @isAgg105:=@isAgg105
theorem iq:type_of% @isAgg121:=@isAgg121
theorem PK:type_of% @isAgg130:=@isAgg130
theorem mV:type_of% @isAgg138:=@isAgg138
theorem PJ:type_of% @isAgg153:=@isAgg153
theorem F7:type_of% @isAgg157:=@isAgg157
theorem tT:type_of% @isAgg175:=@isAgg175
theorem PI:type_of% @isAgg180:=@isAgg180
theorem aC:type_of% @isAgg22:=@isAgg22
theorem PH:type_of% @isAgg230:=@isAgg230
theorem aj:type_of% @isAgg3:=@isAgg3
theorem N9:type_of% @isAgg30:=@isAgg30
theorem lx:type_of% @isAgg331:=@isAgg331
theorem oY:type_of% @isAgg376:=@isAgg376
theorem bC:type_of% @isAgg38:=@isAgg38
theorem eB:type_of% @isAgg39:=@isAgg39
theorem lN:type_of% @isAgg4:=@isAgg4
theorem qL:type_of% @isAgg40:=@isAgg40
theorem df:type_of% @isAgg42:=@isAgg42
theorem PG:type_of% @isAgg444:=@isAgg444
theorem Y8:type_of% @isAgg45:=@isAgg45
theorem jT:type_of% @isAgg50:=@isAgg50
theorem om:type_of% @isAgg54:=@isAgg54
theorem Y7:type_of% @isAgg56:=@isAgg56
theorem N8:type_of% @isAgg60:=@isAgg60
theorem cj:type_of% @isAgg65:=@isAgg65
theorem gP:type_of% @isAgg67:=@isAgg67
theorem vI:type_of% @isAgg69:=@isAgg69
theorem bV:type_of% @isAgg71:=@isAgg71
theorem Y6:type_of% @isAgg92:=@isAgg92
theorem Y5:type_of% @isAgg98:=@isAgg98
theorem lg:type_of% @isAgg99:=@isAgg99
theorem CR:type_of% @results213:=@results213
theorem vH:type_of% @results229:=@results229
theorem vG:type_of% @results262:=@results262
theorem CQ:type_of% @results292:=@results292
theorem N7:type_of% @results293:=@results293
theorem Aw:type_of% @results52:=@results52
theorem U6:type_of% @results55:=@results55
theorem IP:type_of% @results79:=@results79
theorem IN:type_of% @results98:=@results98
theorem cJ:type_of% @runUnderlying105:=@runUnderlying105
theorem Y4:type_of% @runUnderlying107:=@runUnderlying107
theorem fb:type_of% @runUnderlying111:=@runUnderlying111
theorem CP:type_of% @runUnderlying112:=@runUnderlying112
theorem bB:type_of% @runUnderlying118:=@runUnderlying118
theorem lM:type_of% @runUnderlying121:=@runUnderlying121
theorem CO:type_of% @runUnderlying127:=@runUnderlying127
theorem qK:type_of% @runUnderlying135:=@runUnderlying135
theorem lL:type_of% @runUnderlying143:=@runUnderlying143
theorem CN:type_of% @runUnderlying152:=@runUnderlying152
theorem bZ:type_of% @runUnderlying153:=@runUnderlying153
theorem Y3:type_of% @runUnderlying166:=@runUnderlying166
theorem CM:type_of% @runUnderlying201:=@runUnderlying201
theorem dy:type_of% @runUnderlying205:=@runUnderlying205
theorem CL:type_of% @runUnderlying214:=@runUnderlying214
theorem ai:type_of% @runUnderlying22:=@runUnderlying22
theorem Y2:type_of% @runUnderlying225:=@runUnderlying225
theorem gu:type_of% @runUnderlying227:=@runUnderlying227
theorem CK:type_of% @runUnderlying243:=@runUnderlying243
theorem Y1:type_of% @runUnderlying267:=@runUnderlying267
theorem dx:type_of% @runUnderlying268:=@runUnderlying268
theorem fa:type_of% @runUnderlying270:=@runUnderlying270
theorem mU:type_of% @runUnderlying28:=@runUnderlying28
theorem aJ:type_of% @runUnderlying3:=@runUnderlying3
theorem aI:type_of% @runUnderlying331:=@runUnderlying331
theorem CJ:type_of% @runUnderlying368:=@runUnderlying368
theorem CI:type_of% @runUnderlying376:=@runUnderlying376
theorem tS:type_of% @runUnderlying38:=@runUnderlying38
theorem aT:type_of% @runUnderlying39:=@runUnderlying39
theorem cH:type_of% @runUnderlying40:=@runUnderlying40
theorem Y0:type_of% @runUnderlying400:=@runUnderlying400
theorem YZ:type_of% @runUnderlying447:=@runUnderlying447
theorem aD:type_of% @runUnderlying45:=@runUnderlying45
theorem mT:type_of% @runUnderlying47:=@runUnderlying47
theorem mS:type_of% @runUnderlying48:=@runUnderlying48
theorem F6:type_of% @runUnderlying54:=@runUnderlying54
theorem du:type_of% @runUnderlying60:=@runUnderlying60
theorem jS:type_of% @runUnderlying65:=@runUnderlying65
theorem im:type_of% @runUnderlying67:=@runUnderlying67
theorem jR:type_of% @runUnderlying69:=@runUnderlying69
theorem dt:type_of% @runUnderlying71:=@runUnderlying71
theorem aK:type_of% @runUnderlying79:=@runUnderlying79
theorem tR:type_of% @runUnderlying88:=@runUnderlying88
theorem k9:type_of% @runUnderlying9:=@runUnderlying9
theorem tQ:type_of% @runUnderlying92:=@runUnderlying92
theorem jQ:type_of% @runUnderlying93:=@runUnderlying93
theorem F3:type_of% @runUnderlying98:=@runUnderlying98
theorem bK:type_of% @runUnderlying99:=@runUnderlying99
theorem bR:type_of% @sizeOf101:=@sizeOf101
theorem kO:type_of% @sizeOf107:=@sizeOf107
theorem oV:type_of% @sizeOf111:=@sizeOf111
theorem bU:type_of% @sizeOf121:=@sizeOf121
theorem IM:type_of% @sizeOf126:=@sizeOf126
theorem fJ:type_of% @sizeOf130:=@sizeOf130
theorem fI:type_of% @sizeOf157:=@sizeOf157
theorem U5:type_of% @sizeOf166:=@sizeOf166
theorem dT:type_of% @sizeOf175:=@sizeOf175
theorem U4:type_of% @sizeOf216:=@sizeOf216
theorem aP:type_of% @sizeOf22:=@sizeOf22
theorem Av:type_of% @sizeOf230:=@sizeOf230
theorem me:type_of% @sizeOf280:=@sizeOf280
theorem an:type_of% @sizeOf3:=@sizeOf3
theorem oX:type_of% @sizeOf30:=@sizeOf30
theorem IL:type_of% @sizeOf312:=@sizeOf312
theorem oU:type_of% @sizeOf315:=@sizeOf315
theorem U3:type_of% @sizeOf331:=@sizeOf331
theorem aQ:type_of% @sizeOf376:=@sizeOf376
theorem aM:type_of% @sizeOf38:=@sizeOf38
theorem F2:type_of% @sizeOf39:=@sizeOf39
theorem eg:type_of% @sizeOf4:=@sizeOf4
theorem PF:type_of% @sizeOf40:=@sizeOf40
theorem ju:type_of% @sizeOf400:=@sizeOf400
theorem bu:type_of% @sizeOf42:=@sizeOf42
theorem dQ:type_of% @sizeOf50:=@sizeOf50
theorem cD:type_of% @sizeOf54:=@sizeOf54
theorem jP:type_of% @sizeOf56:=@sizeOf56
theorem mR:type_of% @sizeOf60:=@sizeOf60
theorem bk:type_of% @sizeOf65:=@sizeOf65
theorem br:type_of% @sizeOf67:=@sizeOf67
theorem dC:type_of% @sizeOf69:=@sizeOf69
theorem aH:type_of% @sizeOf71:=@sizeOf71
theorem PE:type_of% @sizeOf88:=@sizeOf88
theorem jO:type_of% @sizeOf92:=@sizeOf92
theorem eL:type_of% @sizeOf98:=@sizeOf98
theorem tP:type_of% @typeInfo3:=@typeInfo3
theorem YY:type_of% @typeInfo376:=@typeInfo376
theorem EG:type_of% @underlying27:=@underlying27
theorem e9:type_of% @underlying3:=@underlying3
theorem EF:type_of% @underlying33:=@underlying33
theorem oh:type_of% @zeroValue101:=@zeroValue101
theorem og:type_of% @zeroValue107:=@zeroValue107
theorem ue:type_of% @zeroValue121:=@zeroValue121
theorem oe:type_of% @zeroValue130:=@zeroValue130
theorem EE:type_of% @zeroValue166:=@zeroValue166
theorem ud:type_of% @zeroValue175:=@zeroValue175
theorem mQ:type_of% @zeroValue22:=@zeroValue22
theorem dM:type_of% @zeroValue3:=@zeroValue3
theorem fS:type_of% @zeroValue376:=@zeroValue376
theorem fR:type_of% @zeroValue38:=@zeroValue38
theorem CH:type_of% @zeroValue4:=@zeroValue4
theorem Sh:type_of% @zeroValue400:=@zeroValue400
theorem mP:type_of% @zeroValue42:=@zeroValue42
theorem IK:type_of% @zeroValue50:=@zeroValue50
theorem qJ:type_of% @zeroValue54:=@zeroValue54
theorem IJ:type_of% @zeroValue56:=@zeroValue56
theorem IH:type_of% @zeroValue65:=@zeroValue65
theorem ji:type_of% @zeroValue67:=@zeroValue67
theorem qI:type_of% @zeroValue69:=@zeroValue69
theorem cz:type_of% @zeroValue71:=@zeroValue71
theorem YX:type_of% @zeroValue92:=@zeroValue92
theorem zy:type_of% @zeroValue98:=@zeroValue98
end Go.Proofs.YtfnfiekkdpphjaaGreat
namespace Go.Proofs.YtfnfiekkdpphjaaGreat
open Go.MW Go.ChangeShapes Go.WideShapes Tryz
set_option maxRecDepth 100000
theorem Cb:Tryz.prog.cellsOf 3=1:=by kernel_rfl
theorem Lf:Tryz.prog.cellsOf 22=1:=by kernel_rfl
theorem Yx:Tryz.prog.bytesOf 3=8:=by kernel_rfl
theorem Mp:reachBytes=140737488351232:=rfl
section
variable{H:Type}{enc:TypeId×Value→H}{w:World}{sp:Nat→Bool}{held:Bool}{n:Nat}{cs:List Value}{y:DataW H×List MemPlace}{v:Value}{d:DataW H}{p:List MemPlace}{r:Reach}{base:Nat}
theorem JJ(hw:Wt Tryz.prog 22 y.1)(h:DataW.trod enc Tryz.prog w 0 sp held n 22 cs=some y):∃v xs,cs=[v]∧RI (hp w) v xs∧IsIn xs:=by
 obtain ⟨v,xs,h1,h2,h3,h4⟩:=PS underlying22 e9 Cb hw h;rw [Yx,Mp] at h3;exact ⟨v,xs,h1,h2,ak,h4⟩
end
end Go.Proofs.YtfnfiekkdpphjaaGreat
namespace Go.Proofs.YtfnfiekkdpphjaaGreat
open Go.MW Go.ChangeShapes Go.WideShapes Go.ChangeAt Go.RowKit Tryz
set_option maxRecDepth 100000 in
theorem Ox{H:Type}{enc:TypeId×Value→H}{w:World}{sp:Nat→Bool}{held:Bool}{v:Value}{d:DataW H}{p:List MemPlace}{r:Reach}{base:Nat}
  (hv:Value.okWide Tryz.prog w r base 3 v) (h:DataW.Trod enc Tryz.prog w 0 sp held 3 v d p):∃a,v=I a∧I64 a:=by
 obtain ⟨a,rfl,rfl,rfl,wa⟩:=open_int e9 hv h;exact ⟨a,rfl,Za wa⟩
open Go.MW Go.ChangeShapes Go.WideShapes Tryz
set_option maxRecDepth 100000
theorem NY:Tryz.prog.cellsOf 23=1:=by kernel_rfl
theorem NX:Tryz.prog.cellsOf 24=1:=by kernel_rfl
theorem c_53:Tryz.prog.cellsOf 111=5:=by kernel_rfl
theorem c_43:Tryz.prog.cellsOf 112=4:=by kernel_rfl
theorem aak:Tryz.prog.cellsOf 25=3:=by kernel_rfl
theorem Lh:Tryz.prog.cellsOf 27=7:=by kernel_rfl
theorem len7{α:Type}{l:List α}(h:l.length=7):∃a b c d e f g,l=[a,b,c,d,e,f,g]:=by match l,h with|[a,b,c,d,e,f,g],_=>exact ⟨a,b,c,d,e,f,g,rfl⟩
theorem Pk:∀{zs:List (List Int)},(∀z∈zs,z.length=5∧∀y∈z,I64 y)→∃ls:List F5,zs.map Is=ls.map F5.v
 |[],_=>⟨[],rfl⟩
 |z::zs,h=>by
  obtain ⟨ls,h1⟩:=Pk (fun c hc=>h c (.tail _ hc));obtain ⟨h3,_⟩:=h z (.head _)
  match z,h3 with
  |[a,b,c,d,e],_=>exact ⟨⟨a,b,c,d,e⟩::ls,by rw [List.map_cons,h1];rfl⟩
theorem Pj:∀{zs:List (List Int)},(∀z∈zs,z.length=4∧∀y∈z,I64 y)→∃ls:List F4,zs.map Is=ls.map F4.v
 |[],_=>⟨[],rfl⟩
 |z::zs,h=>by
  obtain ⟨ls,h1⟩:=Pj (fun c hc=>h c (.tail _ hc));obtain ⟨h3,_⟩:=h z (.head _)
  match z,h3 with
  |[a,b,c,d],_=>exact ⟨⟨a,b,c,d⟩::ls,by rw [List.map_cons,h1];rfl⟩
structure YR where
 sp:List Int
 rs:List F5
 cs:List F4
 pk:List Int
 x:Int
 y:Int
 z:Int
def YS(H:bp)(v:Value)(r:YR):Prop:=∃vs v5 v4 vp,v= .agg #[vs,v5,v4,vp,I r.x,I r.y,I r.z]∧RI H vs r.sp∧RF5 H v5 r.rs∧RF4 H v4 r.cs∧RI H vp r.pk
section
variable{H:Type}{enc:TypeId×Value→H}{w:World}{sp:Nat→Bool}{held:Bool}{n:Nat}{cs:List Value}{y:DataW H×List MemPlace}{v:Value}{d:DataW H}{p:List MemPlace}{r:Reach}{base:Nat}
theorem MO(hw:Wt Tryz.prog 23 y.1)(h:DataW.trod enc Tryz.prog w 0 sp held n 23 cs=some y):∃(v:Value) (ls:List F5),cs=[v]∧RF5 (hp w) v ls:=by
 obtain ⟨v,zs,h1,h2,_,h3⟩:=E2 (k:=5) underlying23 underlying111 e9 Cb cR c_53 hw h;obtain ⟨ls,h4⟩:=Pk h3;exact ⟨v,ls,h1,by unfold RF5;rw [←h4];exact h2⟩
theorem MN(hw:Wt Tryz.prog 24 y.1)(h:DataW.trod enc Tryz.prog w 0 sp held n 24 cs=some y):∃(v:Value) (ls:List F4),cs=[v]∧RF4 (hp w) v ls:=by
 obtain ⟨v,zs,h1,h2,_,h3⟩:=E2 (k:=4) underlying24 underlying112 e9 Cb cR c_43 hw h;obtain ⟨ls,h4⟩:=Pj h3;exact ⟨v,ls,h1,by unfold RF4;rw [←h4];exact h2⟩
end
end Go.Proofs.YtfnfiekkdpphjaaGreat
namespace Go.Proofs.YtfnfiekkdpphjaaGreat
theorem Ro:Tryz.prog.make=some .cut:=by kernel_rfl
theorem NV:Tryz.prog.mayEnter=true:=by kernel_rfl
theorem NS:Tryz.prog.liftsFinal=false:=by kernel_rfl
theorem Rp:Tryz.prog.plainKeys=false:=by kernel_rfl
theorem Ld:laidOutB Tryz.prog=true:=by kernel_rfl
theorem Rn:mapsRowed Tryz.prog=true:=by kernel_rfl
theorem NU:Tryz.prog.stopsHeard=true:=by kernel_rfl
theorem NR:Tryz.prog.stops=[]:=by kernel_rfl
theorem NT:Tryz.prog.stopKnobs=[]:=by kernel_rfl
theorem se{a b:Bool}(h:a=true)(k:b=true):(a&&b)=true:=by rw [h,k];rfl
theorem UK{α:Type}[BEq α][LawfulBEq α]{a b:α}(h:a=b):(a==b)=true:=by rw [h];exact beq_self_eq_true _
theorem UE:ownKnob Tryz.prog.godebug=none:=by kernel_rfl
end Go.Proofs.YtfnfiekkdpphjaaGreat
namespace Go.Proofs.YtfnfiekkdpphjaaGreat
open Go.MW Tryz
variable{H:bp}{σ:List Ent}{a0 a1 a2 m a most hi lo f e z1 z2 z3 known fl id number day:Int}{ls:List Lim}{g b k b1 bf bt bl cl i bm bc bn:Nat}{cap sp:List Value}{s:Spc}{xs lf ws l X Y pk days:List Int}{en:Ent}{ts:List TD}{vl vt vd vp vw v1 v2 vr vc d vs v5 v4 b' tap dn b2 c2 d2 ve:Value}{t:TD}{rows:List (List Int)}{fG:List F5}{fL:List F4}{th:Bool}
theorem mix:Tryz.prog.follows .mixedOrders=true:=by kernel_rfl
theorem pL:FA Tryz.prog 27 0 0:=by
 have h:=dh (k:=0) runUnderlying27 rfl aP;exact h
theorem ic:FA Tryz.prog 27 1 1:=by
 have h:=dh (k:=1) runUnderlying27 rfl sizeOf23;exact h
theorem kH:FA Tryz.prog 27 2 2:=by
 have h:=dh (k:=2) runUnderlying27 rfl sizeOf24;exact h
theorem pK:FA Tryz.prog 27 3 3:=by
 have h:=dh (k:=3) runUnderlying27 rfl aP;exact h
theorem B2:FA Tryz.prog 30 0 0:=by
 have h:=dh (k:=0) runUnderlying30 rfl sizeOf9;exact h
theorem jF:FA Tryz.prog 30 1 1:=by
 have h:=dh (k:=1) runUnderlying30 rfl sizeOf28;exact h
theorem pJ:FA Tryz.prog 33 0 0:=by
 have h:=dh (k:=0) runUnderlying33 rfl sizeOf27;exact h
theorem pI:FA Tryz.prog 33 1 7:=by
 have h:=dh (k:=1) runUnderlying33 rfl aP;exact h
theorem pH:FA Tryz.prog 33 2 8:=by
 have h:=dh (k:=2) runUnderlying33 rfl oX;exact h
theorem pG:FA Tryz.prog 33 3 10:=by
 have h:=dh (k:=3) runUnderlying33 rfl sizeOf31;exact h
theorem nS:FA Tryz.prog 36 0 0:=by
 have h:=dh (k:=0) runUnderlying36 rfl an;exact h
theorem nR:FA Tryz.prog 36 1 1:=by
 have h:=dh (k:=1) runUnderlying36 rfl an;exact h
theorem dr:FA Tryz.prog 38 0 0:=by
 have h:=dh (k:=0) tS rfl an;exact h
theorem cP:FA Tryz.prog 38 1 1:=by
 have h:=dh (k:=1) tS rfl an;exact h
theorem bh:FA Tryz.prog 38 2 2:=by
 have h:=dh (k:=2) tS rfl aP;exact h
theorem aV:FA Tryz.prog 38 3 3:=by
 have h:=dh (k:=3) tS rfl aP;exact h
theorem eh:FA Tryz.prog 38 4 4:=by
 have h:=dh (k:=4) tS rfl sizeOf36;exact h
theorem bq:FA Tryz.prog 42 0 0:=by
 have h:=dh (k:=0) runUnderlying42 rfl aM;exact h
theorem aS:FA Tryz.prog 42 1 6:=by
 have h:=dh (k:=1) runUnderlying42 rfl F2;exact h
theorem dm:FA Tryz.prog 42 2 7:=by
 have h:=dh (k:=2) runUnderlying42 rfl PF;exact h
theorem gI:FA Tryz.prog 50 0 0:=by
 have h:=dh (k:=0) runUnderlying50 rfl sizeOf45;exact h
theorem ku:FA Tryz.prog 50 1 1:=by
 have h:=dh (k:=1) runUnderlying50 rfl sizeOf47;exact h
theorem iN:FA Tryz.prog 50 2 2:=by
 have h:=dh (k:=2) runUnderlying50 rfl sizeOf48;exact h
theorem dG:FA Tryz.prog 54 0 0:=by
 have h:=dh (k:=0) F6 rfl an;exact h
theorem ek:FA Tryz.prog 54 1 1:=by
 have h:=dh (k:=1) F6 rfl an;exact h
theorem kl:FA Tryz.prog 65 0 0:=by
 have h:=dh (k:=0) jS rfl an;exact h
theorem kj:FA Tryz.prog 65 1 1:=by
 have h:=dh (k:=1) jS rfl an;exact h
theorem eE:FA Tryz.prog 67 0 0:=by
 have h:=dh (k:=0) im rfl an;exact h
theorem fi:FA Tryz.prog 67 1 1:=by
 have h:=dh (k:=1) im rfl an;exact h
theorem fh:FA Tryz.prog 67 2 2:=by
 have h:=dh (k:=2) im rfl an;exact h
theorem dW:FA Tryz.prog 67 3 3:=by
 have h:=dh (k:=3) im rfl an;exact h
theorem cI:FA Tryz.prog 67 4 4:=by
 have h:=dh (k:=4) im rfl an;exact h
theorem dV:FA Tryz.prog 67 5 5:=by
 have h:=dh (k:=5) im rfl an;exact h
theorem dI:FA Tryz.prog 67 6 6:=by
 have h:=dh (k:=6) im rfl an;exact h
theorem fm:FA Tryz.prog 69 0 0:=by
 have h:=dh (k:=0) jR rfl an;exact h
theorem iW:FA Tryz.prog 69 1 1:=by
 have h:=dh (k:=1) jR rfl an;exact h
theorem gB:FA Tryz.prog 69 2 2:=by
 have h:=dh (k:=2) jR rfl an;exact h
theorem fk:FA Tryz.prog 69 3 3:=by
 have h:=dh (k:=3) jR rfl an;exact h
theorem gA:FA Tryz.prog 69 4 4:=by
 have h:=dh (k:=4) jR rfl an;exact h
theorem fj:FA Tryz.prog 69 5 5:=by
 have h:=dh (k:=5) jR rfl an;exact h
theorem bM:FA Tryz.prog 71 0 0:=by
 have h:=dh (k:=0) dt rfl bk;exact h
theorem cQ:FA Tryz.prog 71 1 2:=by
 have h:=dh (k:=1) dt rfl an;exact h
theorem fE:FA Tryz.prog 71 2 3:=by
 have h:=dh (k:=2) dt rfl an;exact h
theorem ep:FA Tryz.prog 71 3 4:=by
 have h:=dh (k:=3) dt rfl an;exact h
theorem iO:FA Tryz.prog 71 4 5:=by
 have h:=dh (k:=4) dt rfl an;exact h
theorem eo:FA Tryz.prog 71 5 6:=by
 have h:=dh (k:=5) dt rfl an;exact h
theorem dP:FA Tryz.prog 71 6 7:=by
 have h:=dh (k:=6) dt rfl an;exact h
theorem gK:FA Tryz.prog 71 7 8:=by
 have h:=dh (k:=7) dt rfl an;exact h
theorem gJ:FA Tryz.prog 71 8 9:=by
 have h:=dh (k:=8) dt rfl an;exact h
theorem cn:FA Tryz.prog 71 9 10:=by
 have h:=dh (k:=9) dt rfl aM;exact h
theorem ez:FA Tryz.prog 71 10 16:=by
 have h:=dh (k:=10) dt rfl br;exact h
theorem eX:FA Tryz.prog 71 11 23:=by
 have h:=dh (k:=11) dt rfl dC;exact h
theorem pN:FA Tryz.prog 71 12 29:=by
 have h:=dh (k:=12) dt rfl bk;exact h
theorem nQ:FA Tryz.prog 81 0 0:=by
 have h:=dh (k:=0) runUnderlying81 rfl sizeOf79;exact h
theorem BY:FA Tryz.prog 84 0 0:=by
 have h:=dh (k:=0) runUnderlying84 rfl an;exact h
theorem jE:FA Tryz.prog 84 1 1:=by
 have h:=dh (k:=1) runUnderlying84 rfl an;exact h
theorem gg:FA Tryz.prog 84 2 2:=by
 have h:=dh (k:=2) runUnderlying84 rfl an;exact h
theorem kX:FA Tryz.prog 88 0 0:=by
 have h:=dh (k:=0) tR rfl an;exact h
theorem wU:FA Tryz.prog 88 1 1:=by
 have h:=dh (k:=1) tR rfl an;exact h
theorem wT:FA Tryz.prog 88 2 2:=by
 have h:=dh (k:=2) tR rfl an;exact h
theorem wS:FA Tryz.prog 88 3 3:=by
 have h:=dh (k:=3) tR rfl an;exact h
theorem wR:FA Tryz.prog 88 4 4:=by
 have h:=dh (k:=4) tR rfl an;exact h
theorem lE:FA Tryz.prog 92 0 0:=by
 have h:=dh (k:=0) tQ rfl an;exact h
theorem B1:FA Tryz.prog 92 1 1:=by
 have h:=dh (k:=1) tQ rfl an;exact h
theorem B0:FA Tryz.prog 92 2 2:=by
 have h:=dh (k:=2) tQ rfl an;exact h
theorem BZ:FA Tryz.prog 92 3 3:=by
 have h:=dh (k:=3) tQ rfl an;exact h
theorem gp:FA Tryz.prog 92 4 4:=by
 have h:=dh (k:=4) tQ rfl cD;exact h
theorem eR:FA Tryz.prog 98 0 0:=by
 have h:=dh (k:=0) F3 rfl an;exact h
theorem fD:FA Tryz.prog 98 1 1:=by
 have h:=dh (k:=1) F3 rfl an;exact h
theorem iM:FA Tryz.prog 98 2 2:=by
 have h:=dh (k:=2) F3 rfl an;exact h
theorem qZ:FA Tryz.prog 98 3 3:=by
 have h:=dh (k:=3) F3 rfl an;exact h
theorem bS:FA Tryz.prog 101 0 0:=by
 have h:=dh (k:=0) runUnderlying101 rfl an;exact h
theorem cN:FA Tryz.prog 101 1 1:=by
 have h:=dh (k:=1) runUnderlying101 rfl sizeOf99;exact h
theorem mL:FA Tryz.prog 107 1 1:=by
 have h:=dh (k:=1) Y4 rfl an;exact h
theorem gG:FA Tryz.prog 107 2 2:=by
 have h:=dh (k:=2) Y4 rfl bu;exact h
theorem eQ:FA Tryz.prog 107 3 10:=by
 have h:=dh (k:=3) Y4 rfl sizeOf105;exact h
theorem oB:FA Tryz.prog 121 0 0:=by
 have h:=dh (k:=0) lM rfl an;exact h
theorem kW:FA Tryz.prog 121 1 1:=by
 have h:=dh (k:=1) lM rfl an;exact h
theorem wc:FA Tryz.prog 126 0 0:=by
 have h:=dh (k:=0) runUnderlying126 rfl an;exact h
theorem wb:FA Tryz.prog 126 1 1:=by
 have h:=dh (k:=1) runUnderlying126 rfl oX;exact h
theorem qV:FA Tryz.prog 130 1 1:=by
 have h:=dh (k:=1) runUnderlying130 rfl jP;exact h
theorem qU:FA Tryz.prog 130 2 5:=by
 have h:=dh (k:=2) runUnderlying130 rfl sizeOf57;exact h
theorem ti:FA Tryz.prog 135 0 0:=by
 have h:=dh (k:=0) qK rfl an;exact h
theorem nO:FA Tryz.prog 135 1 1:=by
 have h:=dh (k:=1) qK rfl an;exact h
theorem tg:FA Tryz.prog 135 2 2:=by
 have h:=dh (k:=2) qK rfl an;exact h
theorem cO:FA Tryz.prog 143 0 0:=by
 have h:=dh (k:=0) lL rfl kO;exact h
theorem eP:FA Tryz.prog 143 1 11:=by
 have h:=dh (k:=1) lL rfl eg;exact h
theorem iK:FA Tryz.prog 143 2 12:=by
 have h:=dh (k:=2) lL rfl PF;exact h
theorem iJ:FA Tryz.prog 143 3 13:=by
 have h:=dh (k:=3) lL rfl mR;exact h
theorem mK:FA Tryz.prog 143 4 14:=by
 have h:=dh (k:=4) lL rfl mR;exact h
theorem qT:FA Tryz.prog 143 5 15:=by
 have h:=dh (k:=5) lL rfl mR;exact h
theorem iV:FA Tryz.prog 157 0 0:=by
 have h:=dh (k:=0) runUnderlying157 rfl an;exact h
theorem kV:FA Tryz.prog 157 1 1:=by
 have h:=dh (k:=1) runUnderlying157 rfl sizeOf152;exact h
theorem kU:FA Tryz.prog 157 2 2:=by
 have h:=dh (k:=2) runUnderlying157 rfl sizeOf155;exact h
theorem dj:FA Tryz.prog 166 0 0:=by
 have h:=dh (k:=0) Y3 rfl an;exact h
theorem cV:FA Tryz.prog 166 1 1:=by
 have h:=dh (k:=1) Y3 rfl an;exact h
theorem ef:FA Tryz.prog 166 2 2:=by
 have h:=dh (k:=2) Y3 rfl an;exact h
theorem mu:FA Tryz.prog 175 0 0:=by
 have h:=dh (k:=0) runUnderlying175 rfl an;exact h
theorem mr:FA Tryz.prog 175 1 1:=by
 have h:=dh (k:=1) runUnderlying175 rfl oV;exact h
theorem iU:FA Tryz.prog 199 0 0:=by
 have h:=dh (k:=0) runUnderlying199 rfl dQ;exact h
theorem oA:FA Tryz.prog 199 1 3:=by
 have h:=dh (k:=1) runUnderlying199 rfl sizeOf197;exact h
theorem vZ:FA Tryz.prog 216 0 0:=by
 have h:=dh (k:=0) runUnderlying216 rfl an;exact h
theorem pM:FA Tryz.prog 216 1 1:=by
 have h:=dh (k:=1) runUnderlying216 rfl sizeOf214;exact h
theorem uV:FA Tryz.prog 225 0 0:=by
 have h:=dh (k:=0) Y2 rfl sizeOf222;exact h
theorem uU:FA Tryz.prog 225 1 1:=by
 have h:=dh (k:=1) Y2 rfl sizeOf223;exact h
theorem uT:FA Tryz.prog 225 2 2:=by
 have h:=dh (k:=2) Y2 rfl an;exact h
theorem cf:FA Tryz.prog 230 0 0:=by
 have h:=dh (k:=0) runUnderlying230 rfl sizeOf84;exact h
theorem eT:FA Tryz.prog 230 1 3:=by
 have h:=dh (k:=1) runUnderlying230 rfl aM;exact h
theorem mq:FA Tryz.prog 243 0 0:=by
 have h:=dh (k:=0) CK rfl oX;exact h
theorem jD:FA Tryz.prog 243 1 2:=by
 have h:=dh (k:=1) CK rfl fI;exact h
theorem mn:FA Tryz.prog 243 2 14:=by
 have h:=dh (k:=2) CK rfl an;exact h
theorem fu:FA Tryz.prog 243 3 15:=by
 have h:=dh (k:=3) CK rfl sizeOf57;exact h
theorem Ag:FA Tryz.prog 247 0 0:=by
 have h:=dh (k:=0) runUnderlying247 rfl an;exact h
theorem qW:FA Tryz.prog 247 1 1:=by
 have h:=dh (k:=1) runUnderlying247 rfl aP;exact h
theorem iL:FA Tryz.prog 247 2 2:=by
 have h:=dh (k:=2) runUnderlying247 rfl cD;exact h
theorem nP:FA Tryz.prog 250 1 1:=by
 have h:=dh (k:=1) runUnderlying250 rfl sizeOf248;exact h
theorem tm:FA Tryz.prog 250 2 21:=by
 have h:=dh (k:=2) runUnderlying250 rfl aP;exact h
theorem qS:FA Tryz.prog 254 0 0:=by
 have h:=dh (k:=0) runUnderlying254 rfl aP;exact h
theorem gH:FA Tryz.prog 260 0 0:=by
 have h:=dh (k:=0) runUnderlying260 rfl an;exact h
theorem km:FA Tryz.prog 260 1 1:=by
 have h:=dh (k:=1) runUnderlying260 rfl an;exact h
theorem fO:FA Tryz.prog 267 0 0:=by
 have h:=dh (k:=0) Y1 rfl bR;exact h
theorem ie:FA Tryz.prog 267 1 2:=by
 have h:=dh (k:=1) Y1 rfl aP;exact h
theorem dE:FA Tryz.prog 267 2 3:=by
 have h:=dh (k:=2) Y1 rfl aP;exact h
theorem nV:FA Tryz.prog 280 0 0:=by
 have h:=dh (k:=0) runUnderlying280 rfl jO;exact h
theorem nU:FA Tryz.prog 280 1 6:=by
 have h:=dh (k:=1) runUnderlying280 rfl bu;exact h
theorem tk:FA Tryz.prog 312 0 0:=by
 have h:=dh (k:=0) runUnderlying312 rfl an;exact h
theorem tj:FA Tryz.prog 312 1 1:=by
 have h:=dh (k:=1) runUnderlying312 rfl an;exact h
theorem gn:FA Tryz.prog 312 2 2:=by
 have h:=dh (k:=2) runUnderlying312 rfl an;exact h
theorem fC:FA Tryz.prog 315 0 0:=by
 have h:=dh (k:=0) runUnderlying315 rfl an;exact h
theorem qY:FA Tryz.prog 315 1 1:=by
 have h:=dh (k:=1) runUnderlying315 rfl an;exact h
theorem qX:FA Tryz.prog 315 2 2:=by
 have h:=dh (k:=2) runUnderlying315 rfl an;exact h
theorem cM:FA Tryz.prog 376 0 0:=by
 have h:=dh (k:=0) CI rfl an;exact h
theorem cZ:FA Tryz.prog 376 1 1:=by
 have h:=dh (k:=1) CI rfl an;exact h
theorem eW:FA Tryz.prog 376 2 2:=by
 have h:=dh (k:=2) CI rfl an;exact h
theorem dD:FA Tryz.prog 376 3 3:=by
 have h:=dh (k:=3) CI rfl an;exact h
theorem pF:FA Tryz.prog 400 0 0:=by
 have h:=dh (k:=0) Y0 rfl bR;exact h
theorem pE:FA Tryz.prog 400 1 2:=by
 have h:=dh (k:=1) Y0 rfl aP;exact h
theorem kG:FA Tryz.prog 400 2 3:=by
 have h:=dh (k:=2) Y0 rfl an;exact h
theorem Af:FA Tryz.prog 414 1 1:=by
 have h:=dh (k:=1) runUnderlying414 rfl an;exact h
theorem Ae:FA Tryz.prog 414 2 2:=by
 have h:=dh (k:=2) runUnderlying414 rfl an;exact h
theorem Ad:FA Tryz.prog 414 3 3:=by
 have h:=dh (k:=3) runUnderlying414 rfl an;exact h
theorem dd:FA Tryz.prog 447 0 0:=by
 have h:=dh (k:=0) YZ rfl bu;exact h
theorem ft:FA Tryz.prog 447 1 8:=by
 have h:=dh (k:=1) YZ rfl sizeOf118;exact h
theorem jC:FA Tryz.prog 447 2 9:=by
 have h:=dh (k:=2) YZ rfl sizeOf99;exact h
theorem wi:od Tryz.prog 36 [(0,1),(1,1)] [I 0,I 0]:=gW zeroValue36 rfl runUnderlying36 aU
theorem nZ:od Tryz.prog 38 [(0,1),(1,1),(2,1),(3,1),(4,2)] [I 0,I 0,.slice none 0 0,.slice none 0 0,I 0,I 0]:=gW fR rfl tS aU
theorem q7:od Tryz.prog 42 [(0,6),(6,1),(7,1)] [I 0,I 0,.slice none 0 0,.slice none 0 0,I 0,I 0,.slice none 0 0,.slice none 0 0]:=gW mP rfl runUnderlying42 aU
theorem Ci:od Tryz.prog 50 [(0,1),(1,1),(2,1)] [.slice none 0 0,.slice none 0 0,.slice none 0 0]:=gW IK rfl runUnderlying50 aU
theorem lH:od Tryz.prog 54 [(0,1),(1,1)] [I 0,I 0]:=gW qJ rfl F6 aU
theorem pR:od Tryz.prog 56 [(0,2),(2,2)] [I 0,I 0,I 0,I 0]:=gW IJ rfl runUnderlying56 aU
theorem oa:od Tryz.prog 65 [(0,1),(1,1)] [I 0,I 0]:=gW IH rfl jS aU
theorem zh:od Tryz.prog 67 [(0,1),(1,1),(2,1),(3,1),(4,1),(5,1),(6,1)] [I 0,I 0,I 0,I 0,I 0,I 0,I 0]:=gW ji rfl im aU
theorem zk:od Tryz.prog 69 [(0,1),(1,1),(2,1),(3,1),(4,1),(5,1)] [I 0,I 0,I 0,I 0,I 0,I 0]:=gW qI rfl jR aU
theorem fw:od Tryz.prog 71 [(0,2),(2,1),(3,1),(4,1),(5,1),(6,1),(7,1),(8,1),(9,1),(10,6),(16,7),(23,6),(29,2)] [I 0,I 0,I 0,I 0,I 0,I 0,I 0,I 0,I 0,I 0,I 0,I 0,.slice none 0 0,.slice none 0 0,I 0,I 0,I 0,I 0,I 0,I 0,I 0,I 0,I 0,I 0,I 0,I 0,I 0,I 0,I 0,I 0,I 0]:=gW cz rfl dt aU
theorem Es:od Tryz.prog 81 [(0,1)] [.slice none 0 0]:=gW zeroValue81 rfl runUnderlying81 aU
theorem wh:od Tryz.prog 84 [(0,1),(1,1),(2,1)] [I 0,I 0,I 0]:=gW zeroValue84 rfl runUnderlying84 aU
theorem zi:od Tryz.prog 88 [(0,1),(1,1),(2,1),(3,1),(4,1)] [I 0,I 0,I 0,I 0,I 0]:=gW zeroValue88 rfl tR aU
theorem Ep:od Tryz.prog 92 [(0,1),(1,1),(2,1),(3,1),(4,2)] [I 0,I 0,I 0,I 0,I 0,I 0]:=gW YX rfl tQ aU
theorem dJ:od Tryz.prog 98 [(0,1),(1,1),(2,1),(3,1)] [I 0,I 0,I 0,I 0]:=gW zy rfl F3 aU
theorem mN:od Tryz.prog 101 [(0,1),(1,1)] [I 0,.slice none 0 0]:=gW oh rfl runUnderlying101 aU
theorem tI:od Tryz.prog 107 [(0,1),(1,1),(2,8),(10,1)] [I 0,I 0,I 0,I 0,.slice none 0 0,.slice none 0 0,I 0,I 0,.slice none 0 0,.slice none 0 0,.slice none 0 0]:=gW og rfl Y4 aU
theorem ik:od Tryz.prog 121 [(0,1),(1,1)] [I 0,I 0]:=gW ue rfl lM aU
theorem FX:od Tryz.prog 126 [(0,1),(1,2)] [I 0,.string .empty,.slice none 0 0]:=gW zeroValue126 rfl runUnderlying126 aU
theorem lG:od Tryz.prog 130 [(0,1),(1,4),(5,1)] [I 0,I 0,I 0,I 0,I 0,I 0]:=gW oe rfl runUnderlying130 aU
theorem wg:od Tryz.prog 135 [(0,1),(1,1),(2,1)] [I 0,I 0,I 0]:=gW zeroValue135 rfl qK aU
theorem Cg:od Tryz.prog 143 [(0,11),(11,1),(12,1),(13,1),(14,1),(15,1)] [I 0,I 0,I 0,I 0,.slice none 0 0,.slice none 0 0,I 0,I 0,.slice none 0 0,.slice none 0 0,.slice none 0 0,.bool false,.slice none 0 0,.slice none 0 0,.slice none 0 0,.slice none 0 0]:=gW zeroValue143 rfl lL aU
theorem tH:od Tryz.prog 166 [(0,1),(1,1),(2,1)] [I 0,I 0,I 0]:=gW EE rfl Y3 aU
theorem zj:od Tryz.prog 175 [(0,1),(1,5)] [I 0,I 0,I 0,I 0,I 0,I 0]:=gW ud rfl runUnderlying175 aU
theorem zf:od Tryz.prog 199 [(0,3),(3,1)] [.slice none 0 0,.slice none 0 0,.slice none 0 0,.map none]:=gW zeroValue199 rfl runUnderlying199 aU
theorem iX:od Tryz.prog 225 [(0,1),(1,1),(2,1)] [.nilFunc,.nilFunc,I 0]:=gW zeroValue225 rfl Y2 aU
theorem xh:od Tryz.prog 230 [(0,3),(3,6)] [I 0,I 0,I 0,I 0,I 0,.slice none 0 0,.slice none 0 0,I 0,I 0]:=gW zeroValue230 rfl runUnderlying230 aU
theorem vA:od Tryz.prog 243 [(0,2),(2,12),(14,1),(15,1)] [.string .empty,.slice none 0 0,I 0,.slice none 0 0,.slice none 0 0,.slice none 0 0,.slice none 0 0,.slice none 0 0,.slice none 0 0,.slice none 0 0,.slice none 0 0,.slice none 0 0,.slice none 0 0,.slice none 0 0,I 0,I 0]:=gW zeroValue243 rfl CK aU
theorem Er:od Tryz.prog 250 [(0,1),(1,20),(21,1)] [I 0,I 0,.slice none 0 0,I 0,I 0,I 0,.slice none 0 0,I 0,I 0,I 0,.slice none 0 0,I 0,I 0,I 0,.slice none 0 0,I 0,I 0,I 0,.slice none 0 0,I 0,I 0,.slice none 0 0]:=gW zeroValue250 rfl runUnderlying250 aU
theorem Cf:od Tryz.prog 254 [(0,1)] [.slice none 0 0]:=gW zeroValue254 rfl runUnderlying254 aU
theorem Ch:od Tryz.prog 260 [(0,1),(1,1)] [I 0,I 0]:=gW zeroValue260 rfl runUnderlying260 aU
theorem q6:od Tryz.prog 267 [(0,2),(2,1),(3,1)] [I 0,.slice none 0 0,.slice none 0 0,.slice none 0 0]:=gW zeroValue267 rfl Y1 aU
theorem Et:od Tryz.prog 280 [(0,6),(6,8)] [I 0,I 0,I 0,I 0,I 0,I 0,I 0,I 0,.slice none 0 0,.slice none 0 0,I 0,I 0,.slice none 0 0,.slice none 0 0]:=gW zeroValue280 rfl runUnderlying280 aU
theorem q5:od Tryz.prog 376 [(0,1),(1,1),(2,1),(3,1)] [I 0,I 0,I 0,I 0]:=gW fS rfl CI aU
theorem fM:od Tryz.prog 400 [(0,2),(2,1),(3,1)] [I 0,.slice none 0 0,.slice none 0 0,I 0]:=gW Sh rfl Y0 aU
theorem vz:od Tryz.prog 447 [(0,8),(8,1),(9,1)] [I 0,I 0,.slice none 0 0,.slice none 0 0,I 0,I 0,.slice none 0 0,.slice none 0 0,.slice none 0 0,.slice none 0 0]:=gW zeroValue447 rfl YZ aU
theorem pQ:xp Tryz.prog 22 0 1 []:=lZ ai an dM cR aF
theorem bO:xp Tryz.prog 22 1 1 [I 0]:=lZ ai an dM cR aF
theorem dX:xp Tryz.prog 22 2 1 [I 0,I 0]:=lZ ai an dM cR aF
theorem mA:xp Tryz.prog 22 3 1 [I 0,I 0,I 0]:=lZ ai an dM cR aF
theorem qB:xp Tryz.prog 39 0 7 []:=lZ aT br ji cR aF
theorem dS:xp Tryz.prog 39 1 7 [I 0,I 0,I 0,I 0,I 0,I 0,I 0]:=lZ aT br ji cR aF
theorem qE:xp Tryz.prog 40 0 6 []:=lZ cH dC qI cR aF
theorem iD:xp Tryz.prog 40 1 6 [I 0,I 0,I 0,I 0,I 0,I 0]:=lZ cH dC qI cR aF
theorem tG:xp Tryz.prog 45 0 31 []:=lZ aD aH cz cR aF
theorem gU:xp Tryz.prog 45 1 31 [I 0,I 0,I 0,I 0,I 0,I 0,I 0,I 0,I 0,I 0,I 0,I 0,.slice none 0 0,.slice none 0 0,I 0,I 0,I 0,I 0,I 0,I 0,I 0,I 0,I 0,I 0,I 0,I 0,I 0,I 0,I 0,I 0,I 0]:=lZ aD aH cz cR aF
theorem tF:xp Tryz.prog 45 2 31 [I 0,I 0,I 0,I 0,I 0,I 0,I 0,I 0,I 0,I 0,I 0,I 0,.slice none 0 0,.slice none 0 0,I 0,I 0,I 0,I 0,I 0,I 0,I 0,I 0,I 0,I 0,I 0,I 0,I 0,I 0,I 0,I 0,I 0,I 0,I 0,I 0,I 0,I 0,I 0,I 0,I 0,I 0,I 0,I 0,I 0,.slice none 0 0,.slice none 0 0,I 0,I 0,I 0,I 0,I 0,I 0,I 0,I 0,I 0,I 0,I 0,I 0,I 0,I 0,I 0,I 0,I 0]:=lZ aD aH cz cR aF
theorem xg:xp Tryz.prog 47 1 3 [I 0,.string .empty,.slice none 0 0]:=lZ mT IM zeroValue126 cR aF
theorem qD:xp Tryz.prog 48 1 5 [I 0,I 0,I 0,I 0,I 0]:=lZ mS PE zeroValue88 cR aF
theorem dR:xp Tryz.prog 60 1 2 [I 0,I 0]:=lZ du bk IH cR aF
theorem Ap:xp Tryz.prog 79 2 1 [.slice none 0 0,.slice none 0 0]:=lZ aK aP mQ cR aF
theorem vu:xp Tryz.prog 93 1 6 [I 0,I 0,I 0,I 0,I 0,I 0]:=lZ jQ jO YX cR aF
theorem eC:xp Tryz.prog 99 2 4 [I 0,I 0,I 0,I 0,I 0,I 0,I 0,I 0]:=lZ bK eL zy cR aF
theorem vv:xp Tryz.prog 105 1 14 [I 0,I 0,I 0,I 0,I 0,I 0,I 0,I 0,.slice none 0 0,.slice none 0 0,I 0,I 0,.slice none 0 0,.slice none 0 0]:=lZ cJ me zeroValue280 cR aF
theorem iC:xp Tryz.prog 118 1 2 [I 0,I 0]:=lZ bB bU ue cR aF
theorem qG:xp Tryz.prog 201 2 1 [.slice none 0 0,.slice none 0 0]:=lZ CM mR zeroValue60 cR aF
theorem sd:xp Tryz.prog 331 1 4 [I 0,I 0,I 0,I 0]:=lZ aI aQ fS cR aF
theorem jH:xp Tryz.prog 368 1 2 [I 0,I 0]:=lZ CJ cD qJ cR aF
theorem Ce:xp Tryz.prog 448 6 1 [.nilFunc,.nilFunc,.nilFunc,.nilFunc,.nilFunc,.nilFunc]:=lZ runUnderlying448 sizeOf1 zeroValue1 cR aF
theorem bJ:F1 Tryz.prog 22 22 3 1 8:=⟨ai,ai,an,⟨_,tP,rfl,by decide⟩,⟨_,dM,rfl⟩⟩
theorem bL:F1 Tryz.prog 39 39 67 7 56:=⟨aT,aT,br,⟨_,typeInfo67,rfl,by decide⟩,⟨_,ji,rfl⟩⟩
theorem cS:F1 Tryz.prog 40 40 69 6 48:=⟨cH,cH,dC,⟨_,typeInfo69,rfl,by decide⟩,⟨_,qI,rfl⟩⟩
theorem dz:F1 Tryz.prog 45 45 71 31 280:=⟨aD,aD,aH,⟨_,typeInfo71,rfl,by decide⟩,⟨_,cz,rfl⟩⟩
theorem kM:F1 Tryz.prog 48 48 88 5 40:=⟨mS,mS,PE,⟨_,typeInfo88,rfl,by decide⟩,⟨_,zeroValue88,rfl⟩⟩
theorem bP:F1 Tryz.prog 60 60 65 2 16:=⟨du,du,bk,⟨_,typeInfo65,rfl,by decide⟩,⟨_,IH,rfl⟩⟩
theorem nA:F1 Tryz.prog 93 93 92 6 48:=⟨jQ,jQ,jO,⟨_,typeInfo92,rfl,by decide⟩,⟨_,YX,rfl⟩⟩
theorem bY:F1 Tryz.prog 99 99 98 4 32:=⟨bK,bK,eL,⟨_,typeInfo98,rfl,by decide⟩,⟨_,zy,rfl⟩⟩
theorem nC:F1 Tryz.prog 105 105 280 14 176:=⟨cJ,cJ,me,⟨_,typeInfo280,rfl,by decide⟩,⟨_,zeroValue280,rfl⟩⟩
theorem eA:F1 Tryz.prog 118 118 121 2 16:=⟨bB,bB,bU,⟨_,typeInfo121,rfl,by decide⟩,⟨_,ue,rfl⟩⟩
theorem lI:F1 Tryz.prog 331 331 376 4 32:=⟨aI,aI,aQ,⟨_,YY,rfl,by decide⟩,⟨_,fS,rfl⟩⟩
theorem fg:F1 Tryz.prog 368 368 54 2 16:=⟨CJ,CJ,cD,⟨_,typeInfo54,rfl,by decide⟩,⟨_,qJ,rfl⟩⟩
theorem fQ{w:World}(hs:St H w σ):aaq 234 [I a0,I a1,I a2] w fun v w'=>v= .bool (decide (a1≤a0∧a0≤a2))∧St H w' σ:=by
 refine Cl.o func234 ntmps234 ag3 ?_;refine .af (.zn zg (.af (.z zm (.z zm (.z ql (.z zm (.jK (t':=10) rfl (fun nL=>?_) (fun nL=>?_))))))))
 ·exact .T (.z zm (.T (.z zm (.T (.z ql (.z zpT (.zn zg (.ret (Fin.aW results234 rfl ⟨by simp [*],hs.out⟩)))))))))
 ·exact .Fs 3 3 true (.z zpF (.zn zg (.ret (Fin.aW results234 rfl ⟨by simp [*],hs.out⟩))))
theorem tD{w:World}{many:Int}{l:Lim}(hs:St H w σ):aaq 237 [I many,.agg l.c.toArray] w fun v w'=>v= .bool (l.ok many)∧St H w' σ:=by
 refine Cl.o func237 ntmps237 ag2 ?_;refine .af (.bx hs fun b3 w hs=>?_);refine .zn zg (.af (.z (zfa eR) (.y hs (zld aj) (.z zm (.o (.call call234 rfl (fQ hs) ?_))))));rintro _ w ⟨rfl,hs⟩;refine .z zm (.bif (t':=9) rfl (fun LO=>?_) (fun LO=>?_))
 ·refine .T (.z (zfa fD) (.T (.y hs (zld aj) (.T (.z zm (.T (.o (.call call234 rfl (fQ hs) ?_))))))));rintro _ w ⟨rfl,hs⟩;refine .z zpT (.z zm (.bif (t':=15) rfl (fun D5=>?_) (fun D5=>?_)))
  ·refine .T (.z (zfa eR) (.T (.y hs (zld aj) (.T (.z (zfa fD) (.T (.y hs (zld aj) (.T (.z gv (.z zpT (.z zm (.G2 (t':=22) rfl (fun Q0=>?_) (fun Q0=>?_)))))))))))))
   ·refine .T (.z (zfa iM) (.T (.y hs (zld aj) (.T (.o (.call call234 rfl (fQ hs) ?_))))));rintro _ w ⟨rfl,hs⟩;refine .z zpT (.z zm (.bif (t':=27) rfl (fun rW=>?_) (fun rW=>?_)))
    ·refine .T (.z (zfa qZ) (.T (.y hs (zld aj) (.T (.o (.call call234 rfl (fQ hs) ?_))))));rintro _ w ⟨rfl,hs⟩;exact .z zpT (.zn zg (.ret (Fin.aW results237 rfl ⟨by simp [Lim.ok, *],hs.out⟩)))
    ·exact .Fs 3 22 true (.z zpF (.zn zg (.ret (Fin.aW results237 rfl ⟨by simp [Lim.ok, *],hs.out⟩))))
   ·exact .Fs 3 17 true (.z zpF (.z zm (.Fs 3 22 true (.z zpF (.zn zg (.ret (Fin.aW results237 rfl ⟨by simp [Lim.ok, *],hs.out⟩)))))))
  ·exact .Fs 5 10 true (.z zpF (.z zm (.Fs 3 17 true (.z zpF (.z zm (.Fs 3 22 true (.z zpF (.zn zg (.ret (Fin.aW results237 rfl ⟨by simp [Lim.ok, *],hs.out⟩))))))))))
 ·exact .Fs 4 4 true (.z zpF (.z zm (.Fs 5 10 true (.z zpF (.z zm (.Fs 3 17 true (.z zpF (.z zm (.Fs 3 22 true (.z zpF (.zn zg (.ret (Fin.aW results237 rfl ⟨by simp [Lim.ok, *],hs.out⟩)))))))))))))
theorem Cs{w:World}{v:Value}{p:Lim→Bool}(hs:St H w σ)(hr:RL H v ls)
  (hc:∀args w,(callFunc g args).run Tryz.prog w= .ok (.enter g args) w) (hp:∀w l,St H w σ→aaq g ([.agg l.c.toArray]++cap) w fun u w'=>u= .bool (p l)∧St H w' σ):
  aaq 281 [v,.func (.func g) #[] cap.toArray] w fun u w'=>u=I (match ls.findIdx? p with|some k=>(k:Int)|none=> -1)∧St H w' σ:=by
 obtain ⟨a,c,rfl⟩:=RS.shape hr;have hl:=(RS.len hr).2.2;refine Cl.o func281 ntmps281 ag2 ?_;refine .af (.zn zg (.seq (.af (.z zm (.q hs (JB hr rfl bK) (.zn zm (.for (N:=(ls.map Lim.c).length) (J:=fun k fr w=>fr=[(1,.func (.func g) #[] cap.toArray),(0,.slice a (ls.map Lim.c).length c)]∧St H w σ∧∀j<k,∀l,ls[j]? =some l→p l=false) ak ?_ ?_ ?_)))))))
 ·exact .mk ⟨rfl,hs,fun j hj=>by omega⟩
 ·rintro k fr w hk ⟨rfl,hs,ew⟩;obtain ⟨l,hl⟩:=nth (l:=ls) (by simpa using hk);refine .block (.af (.z zm (.zn zg (.af (.z zm (.z zm (.z zm (.ixX hs hr rfl rfl bK eL hl rfl ?_))))))));intro tZ o14 fq;refine .y hs (zls [_,_,_,_] Y5 eL) (.o (.jN (first:=[]) rfl rfl hc (hp _ _ hs) ?_));rintro _ w ⟨rfl,hs⟩;refine .nil (.cond rfl (fun dO=>?_) (fun dO=>?_))
  ·exact .af (.z zm (.zn zg (.ret (rB (rT (rB (rT (Fin.aW results281 rfl ⟨by rw [yW hl dO ew],hs⟩))))))))
  ·exact .skip (nB (nT (.mk ⟨rfl,hs,eU ew hl dO⟩)))
 ·rintro fr w ⟨rfl,hs,ew⟩;exact nT (.af (.zn zg (.ret (Fin.aW results281 rfl ⟨by rw [vY (by simpa using ew)],hs⟩))))
theorem xn{w:World}{v:Value}{p:Lim→Bool}(hs:St H w σ)(hr:RL H v ls)
  (hc:∀args w,(callFunc g args).run Tryz.prog w= .ok (.enter g args) w) (hp:∀w l,St H w σ→aaq g ([.agg l.c.toArray]++cap) w fun u w'=>u= .bool (p l)∧St H w' σ):
  aaq 235 [v,.func (.func g) #[] cap.toArray] w fun u w'=>u= .bool (ls.any p)∧St H w' σ:=by
 refine Cl.o func235 ntmps235 ag2 ?_;refine .af (.zn zg (.af (.z zm (.z zm (.o (.call call281 rfl (Cs hs hr hc hp) ?_))))));rintro _ w ⟨rfl,hs⟩;exact .z zC (.zn zg (.ret (Fin.aW results235 rfl ⟨by rw [FY];cases ls.findIdx? p<;>simp<;>omega,hs⟩)))
theorem Cd{w:World}{many:Int}{v:Value}{l:Lim}(hs:St H w σ)(hm:Mem σ (.blk b [I many,v])):aaq 236 [.agg l.c.toArray,Pt b] w fun v w'=>v= .bool (!l.ok many)∧St H w' σ:=by
 refine Cl.o func236 ntmps236 ag2 ?_;refine .af (.bx hs fun b2 w hs=>?_);refine .zn zg (.af (.z (zfa bS) (.q hs (eM rfl aj (.there hm) rfl) (.q hs (gY (vs:=l.c) rfl Y5 eL) (.o (.call call237 rfl (tD hs) ?_))))));rintro _ w ⟨rfl,hs⟩;exact .z fF (.zn zg (.ret (Fin.aW results236 rfl ⟨rfl,hs.out⟩)))
theorem oD{w:World}{v:Value}{s:dL}(hs:St H w σ)(hr:RSy H v s):aaq 189 [v] w fun v w'=>v=I s.check∧St H w' σ:=by
 obtain ⟨u,rfl,hr⟩:=hr;obtain ⟨a,c,rfl⟩:=RS.shape hr;refine Cl.o func189 ntmps189 ag1 ?_;refine .af (.bx hs fun b1 w hs=>?_);refine .zn zg (.seq (.block (.af (.z (zfa bS) (.y hs (zld aj) (.o (.call call234 rfl (fQ hs) ?_)))))));rintro _ w ⟨rfl,hs⟩;refine .z fF (.zn zg (.cond rfl (fun hc3=>?_) (fun hc3=>?_)))
 ·exact .af (.zn zg (.ret (rB (rT (Fin.aW results189 rfl ⟨congrArg I (by unfold dL.check;(repeat' split)<;>simp_all<;>omega),hs.out⟩)))))
 ·refine .af (.z (zfa cN) (.y hs (zld lg) (.q hs (JB hr rfl bK) (.z nE (.zn zg (.bQ rfl (fun EP=>?_) (fun EP=>?_)))))))
  ·exact .af (.zn zg (.ret (rB (rT (Fin.aW results189 rfl ⟨congrArg I (by unfold dL.check;(repeat' split)<;>simp_all<;>omega),hs.out⟩)))))
  ·refine .af (.z (zfa cN) (.y hs (zld lg) (.q hs (dv (f:=[]) (c:=[_]) rfl rfl) (.o (.call call235 rfl (xn (p:=fun l=> !l.ok s.many) hs hr call236 (fun w l hs=>Cd hs .here)) ?_)))));rintro _ w ⟨rfl,hs⟩;refine .zn zg (.cond rfl (fun iH=>?_) (fun iH=>?_))
   ·exact .af (.zn zg (.ret (rB (rT (Fin.aW results189 rfl ⟨congrArg I (by unfold dL.check;(repeat' split)<;>simp_all<;>omega),hs.out⟩)))))
   ·exact .skip (nB (nT (.af (.zn zg (.ret (Fin.aW results189 rfl ⟨congrArg I (by unfold dL.check;(repeat' split)<;>simp_all<;>omega),hs.out⟩))))))
theorem tA{s:dL}{u:Value}(bw:s.Ok)(hb:Row H b [I s.many,u])(hr:RL H u s.dU):ItA Tryz.prog 238 [Pt b] H s.de:=by
 intro l II Ix _ _ hy H0 Hg σf w hle D8 hs;obtain ⟨a,c,rfl⟩:=RS.shape hr;have D6:cellAt H0 b 1=some (.slice a (s.dU.map Lim.c).length c):=cellAt.mono (by rw [hb.cell];rfl) hle;have hlen:=bw.len;refine Cl.o func238 ntmps238 ag2 ?_;refine .af (.z (zfa cN) (.y hs (zld lg) (.q hs (JB (hr.mono hle) rfl bK) (.zn zm (.for (N:=(s.dU.map Lim.c).length) (J:=fun k fr w=>fr=[(6,.slice a (s.dU.map Lim.c).length c),(0,.func (.yield l) #[] #[])]∧∃H1 σb,HLe H H1∧HLe H0 H1∧II k H1 σb∧St H1 w (σb++σf)) (by simp;omega) ?_ ?_ ?_)))))
 ·exact .mk ⟨rfl,H0,Hg,hle,HLe.refl _,D8,hs⟩
 ·rintro k fr w hk ⟨rfl,H1,σb,az,fA,hI,hs⟩;obtain ⟨x,hx⟩:=nth (l:=s.dU) (by simpa using hk);obtain ⟨hA,hB,_⟩:=bw.arc (List.mem_of_getElem? hx) k;refine .block (.af (.z zm (.ixX hs (hr.mono az) rfl rfl bK eL hx rfl ?_)));intro EU o11 wP;refine .q hs (bj (vs:=x.c) rfl Y5 eL wP) (.o (.alloc hs zy rfl fun b4 w hs=>?_));refine .z zg (.o (.aL (vs:=x.c) hs rfl rfl eL fun w hs=>?_));refine .nil (.af (.z zm (.z (zfa eR) (.y hs (zld aj) (.z (zfa fD) (.y hs (zld aj) (.z (zfa iM) (.y hs (zld aj) (.z zm (.z (zbd [_,_,_,_] q5) ?_))))))))));have z7:k<(s.de.map fun x=>[Value.agg x.v.toArray]).length:=by simp [dL.de,eK];simpa using hk
  have Tb:(s.de.map fun x=>[Value.agg x.v.toArray])[k]=[.agg (x.arc k).v.toArray]:=by
   have:=lK hx;rw [List.getElem_map];rw [List.getElem?_eq_some_iff] at this;obtain ⟨h1,h2⟩:=this;simp only [dL.de];rw [h2]
  have BL:=hy k z7 H1 σb σf w az hI hs.tail;rw [Tb] at BL;refine .o (.yield (vs:=[.agg (x.arc k).v.toArray]) rfl (by simp [Arc.v,hA,hB];rfl) BL ?_);rintro v22 w ⟨H2,σ2,g1,hs,g3⟩;obtain ⟨bb,rfl,gT,gF⟩:=rb g3;refine .zn fF (.cond rfl (fun jM=>?_) (fun jM=>?_))
  ·exact .ret (rB (rT (rB (Fin.Su results238 ⟨H2,σ2,fA.trans g1,hs,.inr (gF (by simpa using jM))⟩))))
  ·exact .skip (nB (nT (.mk ⟨rfl,H2,σ2,az.trans g1,fA.trans g1,gT (by simpa using jM),hs⟩)))
 ·rintro fr w ⟨rfl,H1,σb,az,fA,hI,hs⟩;exact Fin.zG results238 ⟨H1,σb,fA,hs,.inl (by simpa [dL.de,eK] using hI)⟩
theorem kZ{w:World}{v:Value}{s:dL}(hs:St H w σ)(bw:s.Ok)(hr:RSy H v s):
  aaq 192 [v] w fun v w'=>∃H1 b,HLe H H1∧v= .func (.func 238) #[] #[Pt b]∧ItA Tryz.prog 238 [Pt b] H1 s.de∧St H1 w' σ:=by
 obtain ⟨u,rfl,hr⟩:=hr;refine Cl.o func192 ntmps192 ag1 ?_;refine .af (.bx hs fun b1 w hs=>?_);refine .zn zg (.af (.q hs (dv (f:=[]) (c:=[_]) rfl rfl) (.zn zg (.ret (Fin.aW results192 rfl ?_)))));obtain ⟨H1,g1,g2,hs⟩:=hs.bG .here;exact ⟨H1,b1,g1,rfl,tA bw g2 (hr.mono g1),hs⟩
theorem mz{w:World}{N gf:Nat}{ar:List Arc}(hs:St H w σ)(hN:N≤64)(bw:tO ar (N+1))(sq:ItA Tryz.prog gf cap H ar)(hc:∀args w,(callFunc gf args).run Tryz.prog w= .ok (.enter gf args) w):
  aaq 191 [I N,.func (.func gf) #[] cap.toArray] w fun v w'=>∃H1 bc bb s ov vo,HLe H H1∧v= .tuple #[.slice (some ⟨bc,0,none⟩) (N+1) (N+1),.slice (some ⟨bb,0,none⟩) (N+1) (N+1),vo]∧OvR H1 vo ov∧UX (N+1) ar s ov∧St H1 w' (.blk bc (Is s.cost):: .blk bb (jL s.by_)::σ):=by
 refine Cl.o func191 ntmps191 ag2 ?_;refine .af (.o (.alloc hs mQ rfl fun b4 w hs=>?_));refine .o (.alloc hs zeroValue331 rfl fun b5 w hs=>?_);refine .o (.alloc hs zeroValue332 rfl fun b6 w hs=>?_);refine .nil (.cut (fun fs w=>∃bc bb,ob fs ⟨70,[],[(1,.func (.func gf) #[] cap.toArray),(0,I N),(4,Pt b4),(5,Pt b5),(6,Pt b6)]⟩∧St H w (.blk b4 [.slice (some ⟨bc,0,none⟩) (N+1) (N+1)]:: .blk b5 [.slice (some ⟨bb,0,none⟩) (N+1) (N+1)]:: .blk b6 [.pointer none]:: .blk bc (Is (List.replicate (N+1) 0)):: .blk bb (jL (Fk (N+1) 0))::σ)) ?_ ?_)
 ·refine .draw mix rfl hs fun w hs=>?_
  refine .zw 0 rfl zm ?_;refine .z 1 rfl cC ?_;refine .z 3 rfl zm ?_;refine .z 4 rfl cC ?_;refine .e2 (i:=2) (j:=5) aF rfl rfl rfl rfl .none .none hs ?_ ?_
  ·refine .Dt (N+1) hs rfl rfl ai tP rfl an dM ak ?_;intro EU w hs;refine .go (.e2 (i:=5) (j:=6) aF rfl rfl rfl rfl .none .none hs ?_ ?_)
   ·refine .MT (N+1) hs rfl rfl aI YY rfl aQ fS ak ?_;intro tZ w hs;refine .go (.E 6 hs ?_);refine .store hs rfl rfl aP ?_;intro w hs;refine .go (.E 7 hs ?_);refine .store hs rfl rfl U3 ?_;intro w hs;exact .go (.D hs (nT ⟨EU,tZ,bg,hs.sb⟩))
   ·refine .store hs rfl rfl aP ?_;intro w hs;refine .go (.E 5 hs ?_);refine .MT (N+1) hs rfl rfl aI YY rfl aQ fS ak ?_;intro tZ w hs;refine .go (.E 7 hs ?_);refine .store hs rfl rfl U3 ?_;intro w hs;exact .go (.D hs (nT ⟨EU,tZ,bg,hs.sb⟩))
  ·refine .MT (N+1) hs rfl rfl aI YY rfl aQ fS ak ?_;intro tZ w hs;refine .go (.E 2 hs ?_);refine .Dt (N+1) hs rfl rfl ai tP rfl an dM ak ?_;intro EU w hs;refine .go (.E 6 hs ?_);refine .store hs rfl rfl aP ?_;intro w hs;refine .go (.E 7 hs ?_);refine .store hs rfl rfl U3 ?_;intro w hs;exact .go (.D hs (nT ⟨EU,tZ,bg,hs.sb⟩))
 ·rintro s w ⟨bc,bb,j8,hs⟩;refine WE.sub ?_ j8;refine .seq (.af (.y hs (zld lx) (.z (bT aI) (.zn zm (.for (N:=N+1) (J:=fun k fr w=>fr=[(1,.func (.func gf) #[] cap.toArray),(0,I N),(4,Pt b4),(5,Pt b5),(6,Pt b6)]∧St H w (.blk b4 [.slice (some ⟨bc,0,none⟩) (N+1) (N+1)]:: .blk b5 [.slice (some ⟨bb,0,none⟩) (N+1) (N+1)]:: .blk b6 [.pointer none]:: .blk bc (Is (List.replicate (N+1) 0)):: .blk bb (jL (Fk (N+1) k))::σ)) ak ?_ ?_ ?_)))))
  ·exact .mk ⟨rfl,hs⟩
  ·rintro k fr w hk ⟨rfl,hs⟩;have EN:k<(Fk (N+1) k).length:=by rw [Fj ak];exact hk
   refine .block (.af (.z zm (.zn zg (.region (.y hs (zld lx) (.z zm ?_))))));first|(refine .ixw hs aI aQ ?_;intro Iw o22 ny)|refine .z (wo aI aQ) ?_
   refine .z (zfa dD) (.o (.store hs rfl rfl an ?_ cg (G1 EN ak) ((EC EN _).trans (congrArg jL (MR hk)))));intro w hs;exact .nil (nB (nT (.mk ⟨rfl,hs⟩)))
  ·rintro fr w ⟨rfl,hs⟩;refine nT (.seq (.af (.z zm (.z cC (.zn zm (.forD (N:=N+2) (J:=fun r ds fr w=>fr=[(1,.func (.func gf) #[] cap.toArray),(0,I N),(4,Pt b4),(5,Pt b5),(6,Pt b6)]∧∃Ds H1 s vo,ds=marks Ds∧HLe H H1∧zI (N+1) ar r 0 none s∧(r=0∨∃x,OvR H1 vo (some x)∧zI (N+1) ar (r - 1) ar.length (some x) s)∧St H1 w (.blk b4 [.slice (some ⟨bc,0,none⟩) (N+1) (N+1)]:: .blk b5 [.slice (some ⟨bb,0,none⟩) (N+1) (N+1)]:: .blk b6 [vo]:: .blk bc (Is s.cost):: .blk bb (jL s.by_)::(mes Ds++σ))) ak ?_ ?_ ?_))))))
   ·exact .mk (ds:=[]) ⟨rfl,[],H,⟨List.replicate (N+1) 0,List.replicate (N+1) ⟨0,0,0,-1⟩⟩,_,rfl,HLe.refl _,zI.init ak,.inl rfl,by rw [JO] at hs;exact hs⟩
   ·rintro r ds fr w hr ⟨rfl,Ds,H1,s,vo,rfl,az,Z4,-,hs⟩;refine .block (.af (.o (.store hs rfl rfl sizeOf332 fun w hs=>?_)));refine .nil (.seq (.af (.zn zm (.block ?_))));refine .rangeFunc (gf:=gf) (cap:=cap) (xs:=ar.map fun x=>[.agg x.v.toArray]) (σb:=[.blk b4 [.slice (some ⟨bc,0,none⟩) (N+1) (N+1)],.blk b5 [.slice (some ⟨bb,0,none⟩) (N+1) (N+1)],.blk b6 [.pointer none],.blk bc (Is s.cost),.blk bb (jL s.by_)]) (σf:=mes Ds++σ) hs trivial rfl (sq.mono az) hc aU rfl
     (I:=fun k H' σb=>∃s ov vo,σb=[.blk b4 [.slice (some ⟨bc,0,none⟩) (N+1) (N+1)],.blk b5 [.slice (some ⟨bb,0,none⟩) (N+1) (N+1)],.blk b6 [vo],.blk bc (Is s.cost),.blk bb (jL s.by_)]∧OvR H' vo ov∧zI (N+1) ar r k ov s) (Ix:=fun _ _ _=>False) (by rintro k _ _ σ g1 ⟨s,ov,vo,g2,g3,g4⟩;exact ⟨s,ov,vo,g2,g3.mono g1,g4⟩) (fun _ _ _ _ _ h=>h)
     ⟨s,none,_,rfl,rfl,Z4⟩ ?_ ?_ (fun D c H' σb w _ h _=>h.elim)
    ·rintro l k hk H2 Cx zB w aN ⟨s,ov,vo,rfl,IU,hN⟩ hs ⟨rr,LH⟩;obtain ⟨x,hx⟩:=nth (l:=ar) (by simpa using hk);obtain ⟨c1,c2,c3,c4,c5,c6⟩:=bw.2 x (List.mem_of_getElem? hx);have Tb:(ar.map fun x=>[Value.agg x.v.toArray])[k]=[.agg x.v.toArray]:=by rw [List.getElem_map];rw [List.getElem?_eq_some_iff] at hx;obtain ⟨h1,h2⟩:=hx;rw [h2]
     rw [Tb];have EN:k<ar.length:=by simpa using hk
     have Nu:=bw.1;have OT:=hN.lc;have IV:=hN.lb;have lo1:=hN.lo x.f c1;have hi1:=hN.hi x.f c1;refine .region (.o (.alloc hs fS rfl fun b8 w hs=>?_));refine .o (.aL (vs:=x.v) hs rfl rfl aQ fun w hs=>?_);refine .nil (nT ⟨H2,[.blk b8 x.v,.blk b4 [.slice (some ⟨bc,0,none⟩) (N+1) (N+1)],.blk b5 [.slice (some ⟨bb,0,none⟩) (N+1) (N+1)],.blk b6 [vo],.blk bc (Is s.cost),.blk bb (jL s.by_)],HLe.refl _,hs,?_⟩);rintro w zB - hs;refine .block (.seq (.draw mix rfl hs fun w hs=>?_));refine .y 0 rfl hs aC ?_;refine .z 1 rfl (zfa cM) ?_;refine .y 2 rfl hs aj ?_;first|(refine .ixv 3 rfl hs ai an ?_;intro UP o34 qu)|refine .z 3 rfl (zix ai an) ?_
     refine .y 4 rfl hs aj ?_;refine .z 5 rfl (zfa eW) ?_;refine .y 6 rfl hs aj ?_;refine .z 7 rfl cC ?_;refine .y 8 rfl hs aC ?_;refine .z 9 rfl (zfa cZ) ?_;refine .y 10 rfl hs aj ?_;first|(refine .ixv 11 rfl hs ai an ?_;intro VT o42 Kw)|refine .z 11 rfl (zix ai an) ?_
     refine .y 12 rfl hs aj ?_;refine .z 13 rfl fT ?_;refine .D hs ?_;refine (.bQ rfl (fun No=>?_) (fun No=>?_))
     ·refine .seq (.draw mix rfl hs fun w hs=>?_);refine .y 0 rfl hs aC ?_;refine .z 1 rfl (zfa cZ) ?_;refine .y 2 rfl hs aj ?_;refine .y 3 rfl hs lx ?_;refine .z 4 rfl (zfa cZ) ?_;refine .y 5 rfl hs aj ?_;refine .y 6 rfl hs aC ?_;refine .z 7 rfl (zfa cM) ?_;refine .y 8 rfl hs aj ?_;first|(refine .ixv 9 rfl hs ai an ?_;intro b54 o54 Nl)|refine .z 9 rfl (zix ai an) ?_
      refine .y 10 rfl hs aj ?_;refine .z 11 rfl (zfa eW) ?_;refine .y 12 rfl hs aj ?_;refine .z 13 rfl cC ?_;refine .zR (i:=14) (vs:=x.v) hs rfl aF .none rfl oY aQ ?_;first|(refine .ixv 15 rfl hs ai an ?_;intro b60 o60 TZ)|refine .z 15 rfl (zix ai an) ?_
      refine .E 16 hs ?_;refine .store hs rfl rfl an ?_;intro w hs;refine .go ?_;first|(refine .ixw 17 rfl hs aI aQ ?_;intro b61 o61 Ku)|refine .z 17 rfl (wo aI aQ) ?_
      refine .E 18 hs ?_;refine .aL (vs:=x.v) hs rfl rfl aQ ?_;intro w hs;refine .go (.D hs (.region (.o (.store hs rfl rfl sizeOf332 fun w hs=>?_))));refine .nil (nB ?_);obtain ⟨H3,g1,g2,hs⟩:=hs.bG .here;exact ⟨H3,_,g1,hs,s.rlx x,some x,_,rfl,⟨b8,rfl,g2⟩,hN.Dd bw hx No⟩
     ·exact .skip (nB ⟨H2,_,HLe.refl _,hs.tail,s,ov,vo,rfl,IU,hN.skip bw hx (by unfold BS.can;omega)⟩)
    ·rintro D H2 Cx w aN ⟨s,ov,vo,rfl,IU,hN⟩ hs;obtain ⟨a',rfl,O6⟩:=IU.ptr;replace hs:St H2 w (.blk b4 [.slice (some ⟨bc,0,none⟩) (N+1) (N+1)]:: .blk b5 [.slice (some ⟨bb,0,none⟩) (N+1) (N+1)]:: .blk b6 [.pointer a']:: .blk bc (Is s.cost):: .blk bb (jL s.by_)::(mes (D::Ds)++σ)):=St.deep (σ1:=[_,_,_,_,_]) hs;have hN:zI (N+1) ar r ar.length ov s:=by simpa using hN
     refine nB (nT (.af (.y hs (zld isAgg332) (.q hs (AL rfl rfl runUnderlying332) (.nil (.cond rfl (fun wN=>?_) (fun wN=>?_)))))))
     ·refine .seq (.draw mix rfl hs fun w hs=>?_);refine .y 0 rfl hs aC ?_;refine .y 1 rfl hs lx ?_;refine .E 2 hs ?_;refine .store hs rfl rfl aP ?_;intro w hs;refine .go (.E 3 hs ?_);refine .store hs rfl rfl U3 ?_;intro w hs;refine .go (.E 4 hs ?_);refine .store hs rfl rfl sizeOf332 ?_;intro w hs;refine .go (.D hs (.ret (rB (rT (rB (rT (?_)))))));obtain ⟨rfl,rfl⟩:=OvR.no O6 wN;refine Fin.ki (D::Ds) [_,_,_,_,_] hs fun w hs=>⟨_,results3 results191 (HB hs rfl aC) (HB hs rfl lx) (HB hs rfl isAgg332),H2,bc,bb,s,none,_,az.trans aN,rfl,IU,⟨r,hN,fun h=>(h rfl).elim⟩,hs.sb⟩
     ·refine .skip (nB (nT ?_));obtain ⟨x,rfl⟩:=OvR.yes O6 wN;exact .mk (ds:=marks (D::Ds)) ⟨rfl,D::Ds,H2,s,_,rfl,az.trans aN,hN.next bw,.inr ⟨x,IU,hN⟩,hs⟩
   ·rintro ds fr w ⟨rfl,Ds,H1,s,vo,rfl,az,Z4,hor,hs⟩;obtain ⟨x,IU,hN⟩:∃x,OvR H1 vo (some x)∧zI (N+1) ar (N+2 - 1) ar.length (some x) s:=hor.resolve_left ak;obtain ⟨b3,rfl,sY⟩:=IU;refine nT (.seq (.draw mix rfl hs fun w hs=>?_));refine .y 0 rfl hs aC ?_;refine .y 1 rfl hs lx ?_;refine .y 2 rfl hs isAgg332 ?_;refine .E 3 hs ?_;refine .store hs rfl rfl aP ?_;intro w hs;refine .go (.E 4 hs ?_);refine .store hs rfl rfl U3 ?_;intro w hs;refine .go (.E 5 hs ?_);refine .store hs rfl rfl sizeOf332 ?_;intro w hs;refine .go (.D hs (.ret (Fin.ki Ds [_,_,_,_,_] hs fun w hs=>⟨_,results3 results191 (HB hs rfl aC) (HB hs rfl lx) (HB hs rfl isAgg332),H1,bc,bb,s,some x,_,az,rfl,⟨b3,rfl,sY⟩,⟨N+1,hN,fun _=>rfl⟩,hs.sb⟩)))
theorem tB{w:World}{v:Value}{s:dL}(hs:St H w σ)(bw:s.Ok)(hr:RSy H v s):
  aaq 122 [v] w fun v w'=>∃H1 b,HLe H H1∧v= .bool b∧(b=true↔s.Sound)∧St H1 w' σ:=by
 obtain ⟨u,rfl,hr⟩:=hr;obtain ⟨N,hN⟩:=Int.eq_ofNat_of_zero_le bw.m0;have Yn:=bw.m1;have hn:s.n=N+1:=by simp [dL.n,hN]
 have sZ:=bw.de;rw [hn] at sZ;rw [hN];refine Cl.o func122 ntmps122 ag1 ?_;refine .af (.bx hs fun b1 w hs=>?_);refine .zn zg (.seq (.draw mix rfl hs fun w hs=>?_));refine .zw 0 rfl (zfa bS) ?_;refine .y 1 rfl hs aj ?_;refine .ys 2 rfl hs [_,_] ea bR ?_;refine .E 3 hs ?_;refine .call call192 rfl (kZ (s:=s) hs bw ⟨u,by rw [hN],hr⟩) ?_;rintro _ w ⟨H1,jr,az,rfl,sq,hs⟩;refine .go (.E 4 hs ?_);refine .call call191 rfl (mz hs ak sZ sq call238) ?_;rintro _ w ⟨H2,bc,bb,st,ov,vo,aN,rfl,IU,RW,hs⟩;obtain ⟨a',rfl,O6⟩:=IU.ptr;refine .go (.zw 5 rfl zm ?_);refine .z 6 rfl zex ?_;refine .z 7 rfl zex ?_;refine .z 8 rfl zex ?_;refine .z 9 rfl zg ?_;refine .z 10 rfl zg ?_;refine .z 11 rfl zg ?_;refine .D hs ?_;refine .af (.z zm (.q hs (AL rfl rfl runUnderlying332) (.zn zg (.ret (Fin.aW results122 rfl ⟨H2,_,az.trans aN,rfl,?_,hs.out⟩)))));obtain ⟨r,LP,BO⟩:=RW
 cases ov with
 |none=>
  rw [O6];exact ⟨fun _=>⟨_,(LP.sol sZ ak).1⟩,fun _=>rfl⟩
 |some x=>
  rw [O6];exact ⟨fun h=>(by cases h),fun h=>(LP.none sZ ak (by have:=BO aU;omega) h).elim⟩
theorem rG{w:World}{c:Int}(hs:St H w σ)(hc:0≤c∧c<4294967296):aaq 310 [.int .u64 1,.int .u64 c] w fun v w'=>v= .tuple #[.int .u64 0,.int .u64 c]∧St H w' σ:=by
 refine Cl.o func310 ntmps310 ag2 ?_;refine .af (.z zg (.zn zg (.af (.z zm ?_))));first|refine .q hs (P9 rfl rfl ⟨ak,ak⟩) ?_|refine .q hs (Gm rfl rfl) ?_
 refine .zn zg (.af (.z zm ?_));first|refine .q hs (Dg rfl rfl ⟨ak,ak⟩) ?_|refine .q hs (Ff rfl rfl cR) ?_
 refine .zn zg (.af (.z zm ?_));first|refine .q hs (P9 rfl rfl ⟨ak,ak⟩) ?_|refine .q hs (Gm rfl rfl) ?_
 refine .zn zg (.af (.z zm ?_));first|refine .q hs (Dg rfl rfl ⟨ak,ak⟩) ?_|refine .q hs (Ff rfl rfl cR) ?_
 refine .zn zg (.af (.z zm (.z zm (.z oq (.zn zg (.af (.z zm (.z zm (.z oq (.z zm ?_))))))))));first|refine .q hs (Dg rfl rfl ⟨ak,ak⟩) ?_|refine .q hs (Ff rfl rfl cR) ?_
 refine .z cC (.zn zg (.af (.z zm ?_)));first|refine .q hs (P9 rfl rfl ⟨ak,ak⟩) ?_|refine .q hs (Gm rfl rfl) ?_
 refine .zn zg (.af (.z zm ?_));first|refine .q hs (Dg rfl rfl ⟨ak,ak⟩) ?_|refine .q hs (Ff rfl rfl cR) ?_
 refine .zn zg (.af (.z zm (.z zm (.z zm (.z oq (.z cC (.zn zg (.af (.z zm (.z zm (.z oq (.z zm (.z cC (.z zm ?_))))))))))))));first|refine .q hs (Dg rfl rfl ⟨ak,ak⟩) ?_|refine .q hs (Ff rfl rfl cR) ?_
 exact .z cC (.zn zg (.af (.z zm (.z zm (.z oq (.zn zg (.ret (Fin.mh results310 rfl rfl ⟨aU,hs⟩))))))))
theorem uE{w:World}{c:Int}(hs:St H w σ)(hc:0≤c∧c<4294967296):aaq 282 [.int .u64 1,.int .u64 c] w fun v w'=>v= .tuple #[.int .u64 0,.int .u64 c]∧St H w' σ:=by
 refine Cl.o func282 ntmps282 ag2 ?_;refine .af (.z zg (.zn zg (.seq (.cF (.skip (nT (.af (.z zm (.z zm (.o (.call call310 rfl (rG hs hc) ?_)))))))))));rintro _ w ⟨rfl,hs⟩;exact .z zm (.z zex (.z zex (.z zg (.zn zg (.af (.z zm (.z zm (.z zg (.zn zg (.ret (Fin.mh results282 rfl rfl ⟨rfl,hs⟩)))))))))))
theorem KW{c:Nat}{z:Int}:let n:=min k (c - k);(List.replicate k z++List.replicate (c - k) 0).take k++List.replicate n z++(List.replicate k z++List.replicate (c - k) 0).drop (k+n)=List.replicate (k+n) z++List.replicate (c - (k+n)) (0:Int):=by
 intro n;have hn:n≤c - k:=Nat.min_le_right _ _;have e0:(List.replicate k z).length=k:=by simp
 rw [List.take_left' e0];have e1:(List.replicate k z++List.replicate (c - k) 0).drop (k+n)=List.replicate (c - (k+n)) (0:Int):=by
  rw [show k+n=(List.replicate k z).length+n by simp,List.drop_append];simp;omega
 rw [e1,List.replicate_append_replicate]
theorem uv{w:World}{z:Int}{bx c:Nat}(hs:St H w σ)(hm:Mem σ (.blk bx (Is [z])))(h1:1≤c)(h2:c≤1000000):aaq 239 [.slice (some ⟨bx,0,none⟩) 1 1,I c] w fun v w'=>∃b,v= .slice (some ⟨b,0,none⟩) c c∧St H w' (.blk b (Is (List.replicate c z))::σ):=by
 refine Cl.o func239 ntmps239 ag2 ?_;refine .af (.zn zg (.seq (.af (.z zm (.zn fT (.bQ rfl (fun wQ=>?_) (fun wQ=>?_)))))))
 ·omega
 ·refine .skip (nT (.af (.z zm (.z (bT ai) ?_))));first|refine .q hs (yn rfl aJ dy ⟨ak,ak⟩) ?_|refine .q hs (yk rfl aJ dy ⟨ak,ak⟩) ?_|refine .q hs (Di rfl aJ dy) ?_
  refine .z zm ?_;first|refine .q hs (yn rfl aJ dy ⟨ak,ak⟩) ?_|refine .q hs (yk rfl aJ dy ⟨ak,ak⟩) ?_|refine .q hs (Di rfl aJ dy) ?_
  refine .o (.call call282 rfl (uE (c:=c) hs ak) ?_);rintro _ w ⟨rfl,hs⟩;refine .z zm (.z zex (.z zex (.z zg (.zn zg (.seq (.af (.z zm (.z nE (.z zm (.jK (t':=23) rfl (fun FH=>?_) (fun FH=>?_)))))))))))
  ·refine .Fs 2 2 false (.zn zpT (.cT ?_));first|omega|(simp at jo;omega)
  ·refine .T (.z zm (.T (.z nE (.zn zpF (.bQ rfl (fun jo=>?_) (fun jo=>?_))))))
   ·first|omega|(simp at jo;omega)
   ·refine .skip (nT (.af (.z zm ?_)));first|refine .q hs (yn rfl dy aJ ⟨ak,ak⟩) ?_|refine .q hs (yk rfl dy aJ ⟨ak,ak⟩) ?_|refine .q hs (Di rfl dy aJ) ?_
    refine .o (.Dt c hs rfl rfl ai tP rfl an dM ak fun LR w hs=>?_);refine .zn zg (.af (.z zm (.z zm (.o (.UB (k:=1) (xs:=List.replicate c 0) (zs:=[z]) hs rfl rfl ⟨_,_,rfl⟩ ai an ak rfl (Eg (xs:=[z]) (.there hm) rfl rfl) (by simp;omega) ?_)))));intro w hs;refine .zn zg (.seq (.block ?_));refine .loop (fun k:Nat=>⟨48,[],[(8,I k),(7,.slice (some ⟨LR,0,none⟩) c c)]⟩) (fun k w=>(1≤k∧k≤c)∧St H w (.blk LR (Is (List.replicate k z++List.replicate (c - k) 0))::σ)) (fun k=>c - k) 1 bg ⟨⟨ak,ak⟩,by
      have e:List.take 0 (List.replicate c (0:Int))++[z]++List.drop (0+1) (List.replicate c 0)=List.replicate 1 z++List.replicate (c - 1) 0:=by simp
      rw [e] at hs;exact hs⟩ ?_
    rintro k w ⟨⟨k1,k2⟩,hs⟩;refine .seq (.af (.z zm (.z zm (.z (bT ai) (.zn fT (.bQ rfl (fun rR=>?_) (fun rR=>?_)))))))
    ·refine .skip (nT (.block (.draw mix rfl hs fun w hs=>?_)));refine .zw 0 rfl zm ?_;refine .z 1 rfl zm ?_;refine .z 2 rfl zm ?_;refine .zw 3 rfl (Jx (k:=k) rfl rfl ai an ak ak) (.zw 4 rfl zm ?_);refine .z 5 rfl zm ?_;refine .zw 6 rfl (Df (k:=k) rfl rfl ai an ak) (.E 7 hs ?_);refine .UB (k:=min k (c - k)) (xs:=List.replicate k z++List.replicate (c - k) 0) (zs:=List.replicate (min k (c - k)) z) hs rfl rfl ⟨_,_,rfl⟩ ai an rfl aU (Eg (xs:=List.replicate k z++List.replicate (c - k) 0) .here (by rw [List.drop_zero,List.take_append_of_le_length (by simp;omega)];simp) aU) (by simp;omega) ?_;intro w hs;refine .go (.zw 8 rfl cC ?_);refine .z 9 rfl zg ?_;refine .D hs ?_;refine nB (nT ?_);exact ⟨k+min k (c - k),bg,⟨⟨ak,ak⟩,by
       have e:=KW (z:=z) (c:=c) (k:=k);simp only [Nat.mul_one,Nat.zero_add] at hs;rw [e] at hs;exact hs⟩,ak⟩
    ·refine .exit (xT (xT (xB (nT (.af (.z zm (.zn zg (.ret (Fin.aW results239 rfl ?_)))))))));obtain rfl:k=c:=by omega
     exact ⟨LR,rfl,by simpa using hs⟩
theorem uz{w:World}{v:Value}(hs:St H w σ)(hr:RI H v xs)(hx:xs.length≤17592186044416):aaq 193 [v] w fun u w'=>∃en,(SS v=true→SS u=true)∧bE 1 u (Is xs) en∧St H w' (en::σ):=by
 obtain ⟨a,c,rfl⟩:=RI.shape hr;have hl:=(RI.len hr).2.2;refine Cl.o func193 ntmps193 ag1 ?_;refine .af (.zn zg (.seq (.af (.z zm (.q hs (Dh rfl rfl ai) (.nil (.cond rfl (fun FG=>?_) (fun FG=>?_))))))))
 ·refine .af (.zn zg (.ret (rT (Fin.aW results193 rfl ?_))));obtain rfl:a=none:=by simpa using FG
  obtain rfl:=hr.HJ;exact ⟨.nul,fun h=>h,.nil 1 none,hs.nul⟩
 ·refine .skip (nT (.af (.o (.buildSlice (cells:=[]) hs pQ rfl rfl fun b5 w hs=>?_))));refine .z zm (.o (.Lo (xs:=[]) (ys:=Is xs) hs bJ rfl rfl (.full rfl) (.ints hr) (by simp [Value.oneCell']) (fun l h=>by simp at h;omega) ?_));intro v7 en7 w LJ hO hs;exact .zn zg (.ret (Fin.aW results193 rfl ⟨en7,fun _=>LJ rfl,hO,hs⟩))
theorem iS{w:World}{v:Value}(hs:St H w σ)(hr:RI H v xs)(hx:xs.length≤17592186044416):aaq 193 [v] w fun v w'=>∃en,bE 1 v (Is xs) en∧St H w' (en::σ):=
 (uz hs hr hx).mono fun _ _ ⟨en,_,h⟩=>⟨en,h⟩
theorem rn{w:World}{v:Value}{l:List Arc}(hs:St H w (en::σ))(ho:bE 4 v (jL l) en)(hl:l.length≤1000000):
  aaq 241 [v] w fun _ w'=>∃jn,bE 4 v (jL l.reverse) jn∧St H w' (jn::σ):=by
 rcases ho with ⟨a,rfl,h2,rfl⟩|⟨b,len,cap,sp,rfl,rfl,h2,h3,h4⟩
 ·obtain rfl:l=[]:=by
   have:=congrArg List.length h2;rw [dB] at this;exact List.length_eq_zero_iff.1 (by simp at this;omega)
  have hs:=hs.tail;refine Cl.o func241 ntmps241 ag1 ?_;refine .af (.z zm (.z (bT aI) (.z jj (.z zg (.zn zg (.block (.loop (fun _:Unit=>⟨28,[],[(2,I 0),(3,I (-1))]⟩) (fun _ w=>St H w σ) (fun _=>0) () bg hs ?_)))))));rintro _ w hs;refine .seq (.af (.z zm (.z zm (.zn fT (.bQ rfl (fun sr=>?_) (fun sr=>?_))))))
  ·omega
  ·exact .exit (xT (xT (xB (Fin.zG results241 ⟨.nul,.nil 4 a,hs.nul⟩))))
 obtain rfl:len=l.length:=by rw [dB] at h2;omega
 refine Cl.o func241 ntmps241 ag1 ?_;refine .af (.z zm (.z (bT aI) (.z jj (.z zg (.zn zg (.block (.loop (fun p:Nat×List Arc=>⟨28,[],[(2,I p.1),(3,I ((l.length:Int) - 1 - p.1)),(0,.slice (some ⟨b,0,none⟩) l.length cap)]⟩) (fun p w=>(2*p.1≤l.length+1∧wk l p.2 p.1)∧St H w (.blk b (jL p.2++sp)::σ)) (fun p=>l.length - p.1) (0,l) (.cons rfl (.dw rfl aU (.cons rfl (.nil rfl rfl)))) ⟨⟨aU,.start l⟩,hs⟩ ?_)))))));rintro ⟨i,L⟩ w ⟨⟨h5,h6⟩,hs⟩;dsimp only at h5 h6 hs ⊢;have hL:=h6.1;refine .seq (.af (.z zm (.z zm (.zn fT (.bQ rfl (fun sr=>?_) (fun sr=>?_))))))
 ·refine .skip (nT (.seq (.block (.draw mix rfl hs fun w hs=>?_))));refine .zw 0 rfl zm ?_;refine .z 1 rfl zm ?_;refine .z 2 rfl zm ?_;refine .z 3 rfl zm ?_;refine .z 4 rfl zm ?_;refine .z 5 rfl zm ?_;refine .zw 6 rfl (AJ (k:=l.length - 1 - i) rfl rfl aI aQ ak ak) (.zR (i:=7) (vs:=(ga L (l.length - 1 - i)).v) hs rfl aF .none rfl oY aQ ?_ (hv:=zt ak sp));refine .zw 8 rfl zm ?_;refine .z 9 rfl zm ?_;first|(refine .ixw 10 rfl hs aI aQ ?_;intro YE o24 uQ)|refine .z 10 rfl (wo aI aQ) ?_
  refine .zR (i:=11) (vs:=(ga L i).v) hs rfl aF .none rfl oY aQ ?_ (hv:=zt ak sp);first|(refine .ixw 12 rfl hs aI aQ ?_;intro YD o26 jo)|refine .z 12 rfl (wo aI aQ) ?_
  refine .E 13 hs ?_;refine .aL (vs:=(ga L (l.length - 1 - i)).v) hs rfl rfl aQ ?_ cg (ze ak sp) (vM ak _ sp);intro w hs;refine .go (.zw 14 rfl (AJ (k:=l.length - 1 - i) rfl rfl aI aQ ak ak) (.E 15 hs ?_));refine .aL (vs:=(ga L i).v) hs rfl rfl aQ ?_ cg (ze (by simp;omega) sp) (vM (by simp;omega) _ sp);intro w hs;exact .go (.D hs (nB (nT (.region (.z zm (.z cC (.z zm (.z jj (.z zg (.zn zg (nT ⟨(i+1,_),.cons rfl (.dw rfl (by push_cast;omega) (.cons rfl (.nil rfl rfl))),⟨⟨by dsimp only;omega,h6.step ak⟩,hs⟩,by dsimp only;omega⟩)))))))))))
 ·refine .exit (xT (xT (xB ?_)));rw [h6.done ak] at hs;exact Fin.zG results241 ⟨_,.inr ⟨b,l.length,cap,sp,rfl,rfl,by rw [dB];simp,by rw [←h3];simp [dB],h4⟩,hs⟩
theorem oT{s:dL}{ts:List Int}(bw:s.Ok)(hb:Row H b1 [Pt bf])(hF:As H bf s ts lf vl bt bl cl sp)(fU:ts.length=s.dU.length):
  ItA Tryz.prog 283 [Pt b1] H (dY s.de ts):=by
 intro l II Ix EM Nb hy H0 Hg σf w hle D8 hs;have KM:cellAt H0 b1 0=some (Pt bf):=(hb.mono hle).at 0;have Pc:=hF.mono hle;have WK:=Pc.f.cells 0 [I s.many,vl];have hlen:s.de.length=ts.length:=by simp [dL.de,eK,fU]
 refine Cl.o func283 ntmps283 ag2 ?_;refine .af (.bx hs fun b2 w hs=>?_);refine .nil (.af (.y hs (zld PI) (.z znc (.z (zfa fO) (.q hs (bj (vs:=[I s.many,vl]) rfl ea bR WK) (.o (.call call192 rfl (kZ (s:=s) hs bw ⟨vl,rfl,Pc.l⟩) ?_)))))));rintro _ w ⟨H1,b8,az,rfl,sq,hs⟩;refine .nil (.block ?_);refine .rangeFunc (gf:=238) (cap:=[Pt b8]) (xs:=s.de.map fun x:Arc=>[Value.agg x.v.toArray]) (σb:= .blk b2 [.func (.yield l) #[] #[]]::Hg) (σf:=σf) hs trivial rfl sq call238 aU rfl
  (I:=fun k H' σb=>∃σo,σb= .blk b2 [.func (.yield l) #[] #[]]::σo∧HLe H0 H'∧II (Gq s.de ts k) H' σo)
  (Ix:=fun c H' σb=>c= .ret∧∃σo,σb= .blk b2 [.func (.yield l) #[] #[]]::σo∧HLe H0 H'∧Ix H' σo)
  (fun k _ _ σ g1 ⟨σo,g2,g3,g4⟩=>⟨σo,g2,g3.trans g1,EM _ _ _ _ g1 g4⟩) (fun c _ _ σ g1 ⟨g0,σo,g2,g3,g4⟩=>⟨g0,σo,g2,g3.trans g1,Nb _ _ _ g1 g4⟩)
  ⟨Hg,rfl,az,by rw [JH];exact EM _ _ _ _ az D8⟩ ?_ ?_ ?_
 ·rintro l2 k hk H2 Cx zB w aN ⟨σo,rfl,fA,Yq⟩ hs ⟨rr,LH⟩;obtain ⟨x,hx⟩:=nth (l:=s.de) (by simpa using hk);obtain ⟨c1,c2,c3,c4,c5,c6⟩:=bw.de.2 x (List.mem_of_getElem? hx);have Tb:(s.de.map fun x=>[Value.agg x.v.toArray])[k]=[.agg x.v.toArray]:=by rw [List.getElem_map];rw [List.getElem?_eq_some_iff] at hx;obtain ⟨h1,h2⟩:=hx;rw [h2]
  rw [Tb];have OU:k<ts.length:=by rw [←hlen];simpa using hk
  have AR:x.l=(k:Int):=tJ hx;obtain ⟨r1,r2,r3⟩:=Jt (ts:=ts) hx OU;refine .region (.o (.alloc hs fS rfl fun b3 w hs=>?_));refine .o (.aL (vs:=x.v) hs rfl rfl aQ fun w hs=>?_);refine .nil (nT ⟨H2,.blk b3 x.v:: .blk b2 [.func (.yield l) #[] #[]]::σo,HLe.refl _,hs,?_⟩);rintro w zB - hs;refine .block (.seq (.af (.y hs (zld isAgg377) (.q hs (gY (vs:=x.v) rfl oY aQ) ?_))));have BL:=hy (Gq s.de ts k) (by simpa using (List.getElem?_eq_some_iff.1 r1).1) H2 σo (.blk b3 x.v:: .blk b2 [.func (.yield l) #[] #[]]::zB) w (hle.trans fA) Yq (St.deep (σ1:=σo) (St.deep (σ1:= .blk b3 x.v::σo) (hs.perm (.swap _ _ _))));rw [JQ r1] at BL;refine .o (.yield (vs:=[.agg x.v.toArray]) rfl rfl BL ?_);rintro v12 w ⟨H3,σ3,bA,hs,g3⟩;obtain ⟨bb,rfl,gT,gF⟩:=rb g3;replace hs:St H3 w (.blk b3 x.v:: .blk b2 [.func (.yield l) #[] #[]]::(σ3++zB)):=(St.shallow (σ1:= .blk b3 x.v::σ3) (St.shallow (σ1:=σ3) hs)).perm (.swap _ _ _);refine .zn fF (.cond rfl (fun iH=>?_) (fun iH=>?_))
  ·exact .ret (rT (rB (⟨H3,.blk b2 [.func (.yield l) #[] #[]]::σ3,bA,hs.tail,rfl,σ3,rfl,fA.trans bA,gF (by simpa using iH)⟩)))
  ·refine .skip (nT (.seq (.draw mix rfl hs fun w hs=>?_)));have R6:cellAt H3 b1 0=some (Pt bf):=cellAt.mono KM (fA.trans bA);have VC:cellAt H3 bf 2=some (.slice (some ⟨bt,0,none⟩) ts.length ts.length):=((Pc.mono (fA.trans bA)).f).at 2;have ht3:cellAt H3 bt k=some (I (gi ts k)):=((Pc.mono (fA.trans bA)).t).at k (js OU);have KR:=gT (by simpa using iH);refine .r (i:=0) hs rfl aF .none (aR rfl PI R6) ?_;refine .zw 1 rfl znc ?_;refine .z 2 rfl (zfa ie) ?_;refine .y 3 rfl hs aC ?_;refine .z 4 rfl (zfa dD) ?_;refine .y 5 rfl hs aj ?_;refine .zw 6 rfl (l6 (k:=k) rfl rfl ai an AR OU) (.r (i:=7) hs rfl aF .none (aR rfl aj ht3) ?_);refine .zw 8 rfl nE ?_;refine .z 9 rfl zm ?_;refine .jK (t':=23) rfl (fun FH=>?_) (fun FH=>?_)
   ·refine .zv 10 rfl hs (uM isAgg377) (.zw 11 rfl (zfa cZ) ?_);refine .y 12 rfl hs aj ?_;refine .z 13 rfl (zfa cM) ?_;refine .y 14 rfl hs aj ?_;refine .z 15 rfl (zfa eW) ?_;refine .y 16 rfl hs aj ?_;refine .z 17 rfl Ob ?_;refine .z 18 rfl (zfa dD) ?_;refine .y 19 rfl hs aj ?_;refine .z 20 rfl (zbd [_,_,_,_] q5) ?_;refine .E 21 hs ?_;obtain ⟨r4,r5⟩:=r2 FH;have BL:=hy (Gq s.de ts k+1) (by simpa using (List.getElem?_eq_some_iff.1 r4).1) H3 σ3 (.blk b3 x.v:: .blk b2 [.func (.yield l) #[] #[]]::zB) w (hle.trans (fA.trans bA)) KR (St.deep (σ1:=σ3) (St.deep (σ1:= .blk b3 x.v::σ3) (hs.perm (.swap _ _ _))));rw [JQ r4] at BL;refine .yield (vs:=[.agg x.back.v.toArray]) rfl rfl BL ?_;rintro v35 w ⟨H4,σ4,gz,hs,g4⟩;obtain ⟨bb4,rfl,gT4,gF4⟩:=rb g4;replace hs:St H4 w (.blk b3 x.v:: .blk b2 [.func (.yield l) #[] #[]]::(σ4++zB)):=(St.shallow (σ1:= .blk b3 x.v::σ4) (St.shallow (σ1:=σ4) hs)).perm (.swap _ _ _);refine .go (.zw 22 rfl fF ?_);refine .z 23 rfl zpT ?_;refine .D hs ?_;refine (.cond rfl (fun rR=>?_) (fun rR=>?_))
    ·exact .ret (rB (⟨H4,.blk b2 [.func (.yield l) #[] #[]]::σ4,bA.trans gz,hs.tail,rfl,σ4,rfl,fA.trans (bA.trans gz),gF4 (by simpa using rR)⟩))
    ·exact .skip (nB ⟨H4,.blk b2 [.func (.yield l) #[] #[]]::σ4,bA.trans gz,hs.tail,σ4,rfl,fA.trans (bA.trans gz),by rw [r5];exact gT4 (by simpa using rR)⟩)
   ·refine .F 10 rfl ?_;refine .F 11 rfl (.F 12 rfl (.F 13 rfl (.F 14 rfl (.F 15 rfl (.F 16 rfl (.F 17 rfl (.F 18 rfl (.F 19 rfl (.F 20 rfl (.F 21 rfl (.F 22 rfl (.zw 23 rfl zpF ?_))))))))))));refine .D hs ?_;exact (.cF (.skip (nB ⟨H3,.blk b2 [.func (.yield l) #[] #[]]::σ3,bA,hs.tail,σ3,rfl,fA.trans bA,by rw [r3 FH];exact KR⟩)))
 ·rintro D H2 Cx w aN ⟨σo,rfl,fA,Yq⟩ hs;exact nB (Fin.VQ [D] [] hs.Ge fun w hs=>⟨_,results0 results283,H2,σo,fA,hs,.inl (by simpa [ME hlen] using Yq)⟩)
 ·rintro D c H2 Cx w aN ⟨rfl,σo,rfl,fA,hx⟩ hs;exact .ret (rB (Fin.ki [D] [] hs.Ge fun w hs=>⟨_,results0 results283,H2,σo,fA,hs,.inr hx⟩))
theorem qA{w:World}{s:dL}{ts:List Int}(hs:St H w σ)(bw:s.Ok)(hF:As H bf s ts lf vl bt bl cl sp)(fU:ts.length=s.dU.length):
  aaq 240 [Pt bf] w fun v w'=>∃H1 b,HLe H H1∧v= .func (.func 283) #[] #[Pt b]∧ItA Tryz.prog 283 [Pt b] H1 (dY s.de ts)∧St H1 w' σ:=by
 refine Cl.o func240 ntmps240 ag1 ?_;refine .af (.bx hs fun b1 w hs=>?_);refine .zn zg (.af (.q hs (dv (f:=[]) (c:=[_]) rfl rfl) (.zn zg (.ret (Fin.aW results240 rfl ?_)))));obtain ⟨H1,g1,g2,hs⟩:=hs.bG .here;exact ⟨H1,b1,g1,rfl,oT bw g2 (hF.mono g1) fU,hs⟩
theorem sc{w:World}{to:Nat}{s:dL}{ts:List Int}(hs:St H w σ)(bw:s.Ok)(hF:As H bf s ts lf vl bt bl cl sp)(fU:ts.length=s.dU.length)(vS:lf.length=s.n)
  (hD:∃p,jt (dY s.de ts) p) (tV:to<s.n) (Ke:0<gi lf to):
  aaq 194 [Pt bf,I to] w fun v w'=>∃H1 p en,HLe H H1∧bE 4 v (jL p) en∧St H1 w' (en::σ)∧YP s.n s.de ts lf p to:=by
 obtain ⟨N,hN⟩:=Int.eq_ofNat_of_zero_le bw.m0;have Yn:=bw.m1;have hn:s.n=N+1:=by simp [dL.n,hN]
 have sZ:=bw.de;have hlen:s.de.length=ts.length:=by simp [dL.de,eK,fU]
 rw [hn] at sZ vS tV ⊢;obtain ⟨D,hg⟩:=Gg ak ak sZ hlen hD;have hf0:cellAt H bf 0=some (I (N:Int)):=by have:=hF.f.at 0 (v:=I s.many);rwa [hN] at this
 have VC:cellAt H bf 3=some (.slice (some ⟨bl,0,none⟩) lf.length cl):=hF.f.at 3;refine Cl.o func194 ntmps194 ag2 ?_;refine .af (.bx hs fun b2 w hs=>?_);refine .zn zg (.af (.o (.buildSlice (cells:=[_]) hs bO rfl rfl fun lJ w hs=>?_)));refine .y hs (zld PI) (.z znc (.z (zfa fO) (.z (zfa bS) (.y hs (zld aj) (.z cC (.o (.call call239 rfl (uv (z:=far) (c:=N+1) hs .here ak ak) ?_)))))));rintro _ w ⟨bc,rfl,hs⟩;refine .o (.alloc hs mQ rfl fun b5 w hs=>?_);refine .o (.store hs rfl rfl aP fun w hs=>?_);refine .nil (.af (.y hs (zld PI) (.z znc (.z (zfa fO) (.z (zfa bS) (.y hs (zld aj) (.z cC (.o (.MT (N+1) hs rfl rfl aI YY rfl aQ fS ak fun Aq w hs=>?_)))))))));refine .o (.alloc hs zeroValue331 rfl fun b6 w hs=>?_);refine .o (.store hs rfl rfl U3 fun w hs=>?_);refine .nil (.seq (.af (.y hs (zld PI) (.z znc (.z (zfa dE) (.y hs (zld aC) (.z (bT ai) (.zn zm (.for (N:=lf.length) (J:=fun k fr w=>fr=[(31,.slice (some ⟨bl,0,none⟩) lf.length cl),(5,Pt b5),(6,Pt b6),(2,Pt b2),(1,I to)]∧∃st,zq (N+1) lf k st∧St H w (.blk b6 [.slice (some ⟨Aq,0,none⟩) (N+1) (N+1)]:: .blk Aq (jL st.by_):: .blk b5 [.slice (some ⟨bc,0,none⟩) (N+1) (N+1)]:: .blk bc (Is st.cost):: .blk b2 [Pt bf]::σ)) ak ?_ ?_ ?_)))))))))
 ·exact .mk ⟨rfl,_,.start _ _,hs.sb⟩
 ·rintro k fr w hk ⟨rfl,st,hI,hs⟩;have OZ:cellAt H bl k=some (I (gi lf k)):=hF.d.at k (Ls (ck hk) sp);have OT:=hI.lc;have IV:=hI.lb;have Zz:k<st.by_.length:=by omega
  refine .block (.af (.z zm ?_));first|(refine .ixv hs ai an ?_;intro YC o36 BT)|refine .z (zix ai an) ?_
  refine .q hs (aR rfl aj OZ) (.z zg (.zn zg (.af (.z zm (.zn fT (.bQ rfl (fun wO=>?_) (fun wO=>?_)))))))
  ·refine .af (.y hs (zld aC) (.z zm ?_));first|(refine .ixv hs ai an ?_;intro VT o42 Kw)|refine .z (zix ai an) ?_
   refine .o (.store hs rfl rfl an fun w hs=>?_);refine .nil (.region (.y hs (zld lx) (.z zm ?_)));first|(refine .ixw hs aI aQ ?_;intro aan o45 Nn)|refine .z (wo aI aQ) ?_
   refine .z (zfa dD) (.o (.store hs rfl rfl an ?_ cg (G1 Zz ak) (EC Zz _)));intro w hs;exact .nil (nB (nT (.mk ⟨rfl,_,hI.take ak wO,hs⟩)))
  ·exact .skip (nB (nT (.mk ⟨rfl,_,hI.skip wO,hs⟩)))
 ·rintro fr w ⟨rfl,st0,D8,hs⟩;rw [vS] at D8;have hW0:=D8.inv hg;refine nT (.seq (.af (.o (.alloc hs CH rfl fun b9 w hs=>?_))));refine .o (.store hs rfl rfl eg fun w hs=>?_);refine .nil (.block ?_);refine .loop (fun p:Nat×List Nat×bp×BS×Bool=>⟨141,marks p.2.1,[(9,.pointer (some ⟨p.1,0,none⟩)),(5,Pt b5),(6,Pt b6),(2,Pt b2),(1,I to)]⟩)
   (fun p w=>HLe H p.2.2.1∧(∃j,xG (N+1) (dY s.de ts) (fun v=>gi lf v<0) D j p.2.2.2.2 p.2.2.2.1∧(p.2.2.2.2=false→j=(dY s.de ts).length))∧
    St p.2.2.1 w (.blk p.1 [.bool p.2.2.2.2]:: .blk b6 [.slice (some ⟨Aq,0,none⟩) (N+1) (N+1)]:: .blk Aq (jL p.2.2.2.1.by_):: .blk b5 [.slice (some ⟨bc,0,none⟩) (N+1) (N+1)]:: .blk bc (Is p.2.2.2.1.cost):: .blk b2 [Pt bf]::(mes p.2.1++σ)))
   (fun p=>2*WM (N+1) D p.2.2.2.1+(if p.2.2.2.2=true then 1 else 0)) (b9,[],H,st0,true) bg ⟨HLe.refl _,⟨0,hW0,fun h=>by cases h⟩,hs⟩ ?_
  rintro ⟨b9,Ds,H1,st,ag⟩ w ⟨az,⟨j,hW,hj⟩,hs⟩;dsimp only at az hW hj hs ⊢;have OT:=hW.lc;have IV:=hW.lb;refine .seq (.af (.y hs (zld lN) (.nil (.cond rfl (fun BQ=>?_) (fun BQ=>?_)))))
  ·refine .skip (nT (.seq (.block (.af ?_))));subst BQ;refine .o (.store hs rfl rfl eg fun w hs=>?_);refine .nil (.af (.y hs (zld PI) (.o (.call call240 rfl (qA hs bw (hF.mono az) fU) ?_))));rintro _ w ⟨H2,VS,aN,rfl,sq,hs⟩;refine .nil (.block ?_);refine .rangeFunc (gf:=283) (cap:=[Pt VS]) (xs:=(dY s.de ts).map fun x:Arc=>[Value.agg x.v.toArray])
    (σb:=[.blk b9 [.bool false],.blk b6 [.slice (some ⟨Aq,0,none⟩) (N+1) (N+1)],.blk Aq (jL st.by_),.blk b5 [.slice (some ⟨bc,0,none⟩) (N+1) (N+1)],.blk bc (Is st.cost),.blk b2 [Pt bf]]) (σf:=mes Ds++σ) hs trivial rfl sq call283 aU rfl
    (I:=fun k H' σb=>HLe H2 H'∧∃EK ag,σb=[.blk b9 [.bool ag],.blk b6 [.slice (some ⟨Aq,0,none⟩) (N+1) (N+1)],.blk Aq (jL EK.by_),.blk b5 [.slice (some ⟨bc,0,none⟩) (N+1) (N+1)],.blk bc (Is EK.cost),.blk b2 [Pt bf]]∧
     xG (N+1) (dY s.de ts) (fun v=>gi lf v<0) D k ag EK∧WM (N+1) D EK≤WM (N+1) D st∧(ag=true→WM (N+1) D EK<WM (N+1) D st)) (Ix:=fun _ _ _=>False)
    (by rintro k _ _ σ g1 ⟨g2,g3⟩;exact ⟨g2.trans g1,g3⟩) (fun _ _ _ _ _ h=>h) ⟨HLe.refl _,st,false,rfl,hW.next,Nat.le_refl _,fun h=>by cases h⟩ ?_ ?_ (fun D c H' σb w _ h _=>h.elim)
   ·rintro l k hk H3 LV σf3 w bA ⟨DS,EK,ag,rfl,FK,LK,OO⟩ hs ⟨rr,LH⟩;obtain ⟨x,hx⟩:=nth (l:=dY s.de ts) (by simpa using hk);obtain ⟨c1,c2,c3,c4,c5,c6⟩:=hg.ok x (List.mem_of_getElem? hx);rw [JQ hx];have hlc':=FK.lc;have hlb':=FK.lb;have lo1:=FK.lo x.f c1;have lo2:=hg.d1 x.f c1;have hx3:cellAt H3 bl x.t=some (I (gi lf x.t)):=((hF.mono (az.trans (aN.trans bA))).d).at x.t (Ls (ck ak) sp);have hf33:cellAt H3 bf 3=some (.slice (some ⟨bl,0,none⟩) lf.length cl):=cellAt.mono VC (az.trans (aN.trans bA));refine .region (.o (.alloc hs fS rfl fun jr w hs=>?_));refine .o (.aL (vs:=x.v) hs rfl rfl aQ fun w hs=>?_);refine .nil (nT ⟨H3,[.blk jr x.v,.blk b9 [.bool ag],.blk b6 [.slice (some ⟨Aq,0,none⟩) (N+1) (N+1)],.blk Aq (jL EK.by_),.blk b5 [.slice (some ⟨bc,0,none⟩) (N+1) (N+1)],.blk bc (Is EK.cost),.blk b2 [Pt bf]],HLe.refl _,hs,?_⟩);rintro w zA - hs;refine .block (.seq (.draw mix rfl hs fun w hs=>?_));refine .y 0 rfl hs aC ?_;refine .z 1 rfl (zfa cM) ?_;refine .y 2 rfl hs aj ?_;first|(refine .ixv 3 rfl hs ai an ?_;intro VR o55 HY)|refine .z 3 rfl (zix ai an) ?_
    refine .y 4 rfl hs aj ?_;refine .z 5 rfl fT ?_;refine .z 6 rfl zm ?_;refine .jK (t':=58) rfl (fun Ia=>?_) (fun Ia=>?_)
    ·refine .y 7 rfl hs aC ?_;refine .z 8 rfl (zfa cM) ?_;refine .y 9 rfl hs aj ?_;first|(refine .ixv 10 rfl hs ai an ?_;intro Yy o62 hc62)|refine .z 10 rfl (zix ai an) ?_
     refine .y 11 rfl hs aj ?_;refine .z 12 rfl (zfa eW) ?_;refine .y 13 rfl hs aj ?_;refine .z 14 rfl cC ?_;refine .y 15 rfl hs aC ?_;refine .z 16 rfl (zfa cZ) ?_;refine .y 17 rfl hs aj ?_;first|(refine .ixv 18 rfl hs ai an ?_;intro b70 o70 hc70)|refine .z 18 rfl (zix ai an) ?_
     refine .y 19 rfl hs aj ?_;refine .z 20 rfl fT ?_;refine .z 21 rfl zpT ?_;refine .z 22 rfl zm ?_;refine .jK (t':=74) rfl (fun HZ=>?_) (fun HZ=>?_)
     ·refine .y 23 rfl hs PI ?_;refine .z 24 rfl znc ?_;refine .z 25 rfl (zfa dE) ?_;refine .y 26 rfl hs aC ?_;refine .z 27 rfl (zfa cZ) ?_;refine .y 28 rfl hs aj ?_;first|(refine .ixv 29 rfl hs ai an ?_;intro b81 o81 QO)|refine .z 29 rfl (zix ai an) ?_
      refine .y 30 rfl hs aj ?_;refine .z 31 rfl zC ?_;refine .z 32 rfl zm ?_;refine .jK (t':=84) rfl (fun XO=>?_) (fun XO=>?_)
      ·refine .F 33 rfl (.F 34 rfl (.F 35 rfl (.F 36 rfl (.F 37 rfl (.F 38 rfl (.F 39 rfl (.F 40 rfl (.F 41 rfl (.zw 42 rfl zpT ?_)))))))));refine .z 43 rfl zpT ?_;refine .D hs ?_;refine (.cT (.draw mix rfl hs fun w hs=>?_));refine .y 0 rfl hs aC ?_;refine .z 1 rfl (zfa cZ) ?_;refine .y 2 rfl hs aj ?_;refine .y 3 rfl hs lx ?_;refine .z 4 rfl (zfa cZ) ?_;refine .y 5 rfl hs aj ?_;refine .y 6 rfl hs aC ?_;refine .z 7 rfl (zfa cM) ?_;refine .y 8 rfl hs aj ?_;first|(refine .ixv 9 rfl hs ai an ?_;intro YN o105 Ub)|refine .z 9 rfl (zix ai an) ?_
       refine .y 10 rfl hs aj ?_;refine .z 11 rfl (zfa eW) ?_;refine .y 12 rfl hs aj ?_;refine .z 13 rfl cC ?_;refine .zR (i:=14) (vs:=x.v) hs rfl aF .none rfl oY aQ ?_;first|(refine .ixv 15 rfl hs ai an ?_;intro YL o111 Ua)|refine .z 15 rfl (zix ai an) ?_
       refine .E 16 hs ?_;refine .store hs rfl rfl an ?_;intro w hs;refine .go ?_;first|(refine .ixw 17 rfl hs aI aQ ?_;intro YK o112 T9)|refine .z 17 rfl (wo aI aQ) ?_
       refine .E 18 hs ?_;refine .aL (vs:=x.v) hs rfl rfl aQ ?_;intro w hs;refine .go (.E 19 hs ?_);refine .store hs rfl rfl eg ?_;intro w hs;refine .go (.D hs (nB ?_));have:=FK.less hg hx Ia HZ;exact ⟨H3,_,HLe.refl _,hs.tail,DS,EK.rlx x,true,rfl,FK.Dd hg hx Ia HZ,ak,fun _=>by omega⟩
      ·refine .y 33 rfl hs aC ?_;refine .z 34 rfl (zfa cM) ?_;refine .y 35 rfl hs aj ?_;first|(refine .ixv 36 rfl hs ai an ?_;intro b88 o88 TW)|refine .z 36 rfl (zix ai an) ?_
       refine .y 37 rfl hs aj ?_;refine .z 38 rfl (zfa eW) ?_;refine .y 39 rfl hs aj ?_;refine .z 40 rfl cC ?_;refine .z 41 rfl fT ?_;refine .z 42 rfl zpF ?_;refine .z 43 rfl zpT ?_;refine .D hs ?_;refine (.bQ rfl (fun XD=>?_) (fun XD=>?_))
       ·refine .draw mix rfl hs fun w hs=>?_
        refine .y 0 rfl hs aC ?_;refine .z 1 rfl (zfa cZ) ?_;refine .y 2 rfl hs aj ?_;refine .y 3 rfl hs lx ?_;refine .z 4 rfl (zfa cZ) ?_;refine .y 5 rfl hs aj ?_;refine .y 6 rfl hs aC ?_;refine .z 7 rfl (zfa cM) ?_;refine .y 8 rfl hs aj ?_;first|(refine .ixv 9 rfl hs ai an ?_;intro YN o105 Ub)|refine .z 9 rfl (zix ai an) ?_
        refine .y 10 rfl hs aj ?_;refine .z 11 rfl (zfa eW) ?_;refine .y 12 rfl hs aj ?_;refine .z 13 rfl cC ?_;refine .zR (i:=14) (vs:=x.v) hs rfl aF .none rfl oY aQ ?_;first|(refine .ixv 15 rfl hs ai an ?_;intro YL o111 Ua)|refine .z 15 rfl (zix ai an) ?_
        refine .E 16 hs ?_;refine .store hs rfl rfl an ?_;intro w hs;refine .go ?_;first|(refine .ixw 17 rfl hs aI aQ ?_;intro YK o112 T9)|refine .z 17 rfl (wo aI aQ) ?_
        refine .E 18 hs ?_;refine .aL (vs:=x.v) hs rfl rfl aQ ?_;intro w hs;refine .go (.E 19 hs ?_);refine .store hs rfl rfl eg ?_;intro w hs;refine .go (.D hs (nB ?_));have:=FK.less hg hx Ia HZ;exact ⟨H3,_,HLe.refl _,hs.tail,DS,EK.rlx x,true,rfl,FK.Dd hg hx Ia HZ,ak,fun _=>by omega⟩
       ·refine .skip (nB ?_);have:=FK.src x.t c2 ak;omega
     ·refine .F 23 rfl (.F 24 rfl (.F 25 rfl (.F 26 rfl (.F 27 rfl (.F 28 rfl (.F 29 rfl (.F 30 rfl ?_)))))));refine .F 31 rfl (.F 32 rfl (.F 33 rfl (.F 34 rfl (.F 35 rfl (.F 36 rfl (.F 37 rfl (.F 38 rfl (.F 39 rfl (.F 40 rfl (.F 41 rfl (.F 42 rfl (.zw 43 rfl zpF ?_))))))))))));refine .D hs ?_;exact (.cF (.skip (nB ⟨H3,_,HLe.refl _,hs.tail,DS,EK,ag,rfl,FK.skip hx (fun h=>HZ h.2),LK,OO⟩)))
    ·refine .F 7 rfl (.F 8 rfl ?_);refine .F 9 rfl (.F 10 rfl (.F 11 rfl (.F 12 rfl (.F 13 rfl (.F 14 rfl (.F 15 rfl (.F 16 rfl (.F 17 rfl (.F 18 rfl (.F 19 rfl (.F 20 rfl (.zw 21 rfl zpF ?_))))))))))));refine .z 22 rfl zm ?_;refine .F 23 rfl (.F 24 rfl (.F 25 rfl (.F 26 rfl (.F 27 rfl (.F 28 rfl (.F 29 rfl (.F 30 rfl ?_)))))));refine .F 31 rfl (.F 32 rfl (.F 33 rfl (.F 34 rfl (.F 35 rfl (.F 36 rfl (.F 37 rfl (.F 38 rfl (.F 39 rfl (.F 40 rfl (.F 41 rfl (.F 42 rfl (.zw 43 rfl zpF ?_))))))))))));refine .D hs ?_;exact (.cF (.skip (nB ⟨H3,_,HLe.refl _,hs.tail,DS,EK,ag,rfl,FK.skip hx (fun h=>Ia h.1),LK,OO⟩)))
   ·rintro D3 H3 LV w bA ⟨DS,EK,ag,rfl,FK,LK,OO⟩ hs;replace hs:St H3 w (.blk b9 [.bool ag]:: .blk b6 [.slice (some ⟨Aq,0,none⟩) (N+1) (N+1)]:: .blk Aq (jL EK.by_):: .blk b5 [.slice (some ⟨bc,0,none⟩) (N+1) (N+1)]:: .blk bc (Is EK.cost):: .blk b2 [Pt bf]::(mes (D3::Ds)++σ)):=St.deep (σ1:=[_,_,_,_,_,_]) hs;rw [List.length_map] at FK;refine nB (nB (nT (.af (.y hs (zld lN) (.nil (.region (.o (.alloc hs CH rfl fun b9 w hs=>?_))))))));refine .o (.store hs rfl rfl eg fun w hs=>?_);refine .nil (nT ?_);exact ⟨(b9,D3::Ds,H3,EK,ag),bg,⟨az.trans (aN.trans bA),⟨_,FK,fun _=>rfl⟩,hs.sb⟩,by
      dsimp only
      cases ag with
      |false=>simp;omega
      |true=>have:=OO rfl;simp;omega⟩
  ·refine .exit (xT (xT (xB (nT (.seq (.af ?_))))));subst BQ;obtain rfl:=hj rfl;refine .y hs (zld aC) (.z zm ?_);first|(refine .ixv hs ai an ?_;intro b116 o116 ZO)|refine .z (zix ai an) ?_
   refine .y hs (zld aj) (.zn fW (.bQ rfl (fun O3=>?_) (fun O3=>?_)))
   ·refine .af (.zn zg (.ret (rT ((Fin.ki Ds [_,_,_,_,_,_] hs fun w hs=>⟨_,results1 results194 rfl,H1,[],.nul,az,.nil 4 none,(hs.sb).nul,hW.none hg O3⟩)))))
   ·refine .skip (nT (.af (.zn zg (.seq (.af (.z zm (.zn zg (.block ?_))))))));have Kd:gi st.cost to<far:=by have:=hW.top to tV;have e:far=1152921504606846976:=rfl;omega
    obtain ⟨kk,cc,u,Np,vQ,Nc,DV,tX,WA⟩:=hW.back hg tV Kd Ke;refine .loop (fun p:Nat×Nat×Value×Ent=>⟨141,marks Ds,[(11,p.2.2.1),(12,I p.2.1),(6,Pt b6)]⟩)
     (fun p w=>p.1≤kk∧(p.2.1<N+1∧gi st.cost p.2.1<far)∧bE 4 p.2.2.1 (jL (oK st.by_ to p.1)) p.2.2.2∧(∃d,gq st.by_ to p.1 d p.2.1)∧(∃d,gq st.by_ p.2.1 (kk - p.1) d u)∧
      St H1 w (p.2.2.2:: .blk b9 [.bool false]:: .blk b6 [.slice (some ⟨Aq,0,none⟩) (N+1) (N+1)]:: .blk Aq (jL st.by_):: .blk b5 [.slice (some ⟨bc,0,none⟩) (N+1) (N+1)]:: .blk bc (Is st.cost):: .blk b2 [Pt bf]::(mes Ds++σ)))
     (fun p=>kk - p.1) (0,to,.slice none 0 0,.nul) bg ⟨Nat.zero_le _,⟨tV,Kd⟩,.nil 4 none,⟨0,.nil⟩,⟨cc,Np⟩,hs.nul⟩ ?_
    rintro ⟨i,v,v11,en⟩ w ⟨hik,⟨Vk,WC⟩,hO,⟨d1,D6⟩,⟨d2,AV⟩,hs⟩;dsimp only at hik Vk WC hO D6 AV hs ⊢;have WB:v<st.by_.length:=by omega
    refine .seq (.af (.y hs (zld lx) (.z zm ?_)));first|(refine .ixw hs aI aQ ?_;intro b122 o122 ZL)|refine .z (wo aI aQ) ?_
    refine .z (zfa dD) (.q hs (eM rfl aj (hv:=(tN WB (j:=3) ak).trans rfl)) (.zn zC (.bQ rfl (fun KB=>?_) (fun KB=>?_))))
    ·refine .skip (nT (.seq (.block (.region (.z zm (.y hs (zld lx) (.z zm ?_)))))));first|(refine .ixw hs aI aQ ?_;intro YH o134 GF)|refine .z (wo aI aQ) ?_
     refine .q hs (gY (vs:=(ga st.by_ v).v) rfl oY aQ (hv:=He WB)) (.o (.buildSlice (cells:=(ga st.by_ v).v) hs sd rfl rfl fun YG w hs=>?_));refine .o (.append (ys:=(ga st.by_ v).v) hs lI rfl rfl hO (.own .here rfl rfl) (by simp [Arc.v,Value.oneCell']) (fun l h=>by rw [dB,kx] at h;omega) ?_);intro v137 en137 w gM hs;refine .zn zg (nB (nT (.region (.y hs (zld lx) (.z zm ?_)))));first|(refine .ixw hs aI aQ ?_;intro YJ o128 T8)|refine .z (wo aI aQ) ?_
     refine .z (zfa cM) (.q hs (eM rfl aj (hv:=(tN WB (j:=0) ak).trans rfl)) (.zn zg (nT ?_)));obtain ⟨g1,g2⟩:=tX v Vk WC KB;obtain ⟨m,hm⟩:∃m,kk - i=m+1:=by
      refine ⟨kk - i - 1,?_⟩
      rcases Nat.lt_or_ge i kk with h|h
      ·omega
      ·obtain e:kk - i=0:=by omega
       rw [e] at AV;cases AV
       omega
     rw [hm] at AV
     obtain ⟨d3,R6⟩:∃d,gq st.by_ (ga st.by_ v).f m d u:=by cases AV with|cons _ t=>exact ⟨_,t⟩
     rw [←Ly,←Hj D6] at gM;exact ⟨(i+1,(ga st.by_ v).f,v137,en137),bg,⟨by dsimp only;omega,⟨g1,g2⟩,gM,⟨_,D6.trans (.cons KB .nil)⟩,⟨d3,by rw [show kk - (i+1)=m by omega];exact R6⟩,hs.sb⟩,by dsimp only;omega⟩
    ·refine .exit (xT (xT (xB (nT (.af ?_)))));obtain rfl:i=kk:=by
      rcases Nat.lt_or_ge i kk with h|h
      ·obtain ⟨m,hm⟩:∃m,kk - i=m+1:=⟨kk - i - 1,ak⟩;rw [hm] at AV
       cases AV with
       |cons hl _=>omega
      ·omega
     refine .z zm (.o (.call call241 rfl (rn hs hO (by rw [kx];omega)) ?_));rintro v139 w ⟨jn,Um,hs⟩;refine .nil (.af (.z zm (.zn zg (.ret (Fin.ki Ds [_,_,_,_,_,_,_] hs fun w hs=>⟨_,results1 results194 rfl,H1,_,jn,az,Um,hs.sb,WA _ rfl⟩)))))
theorem G8{s:dL}{x:Arc}(bw:s.Ok)(hx:IF s.de x):∃(i:Nat) (l:Lim),s.dU[i]? =some l∧x.l=(i:Int)∧(l.A=(x.f:Int)↔fwd s.de x)∧i<s.dU.length:=by
 obtain ⟨i,y,h1,h2⟩:=hx;have hl:=tJ h1;have fU:i<s.dU.length:=by have:=(List.getElem?_eq_some_iff.1 h1).1;simpa [dL.de,eK] using this
 obtain ⟨l,LL⟩:=nth fU;have h3:=lK LL;have Pd:(oF s.dU)[i]? =some y:=h1;rw [h3] at Pd;cases Pd
 obtain ⟨a1,a2,_⟩:=bw.arc (List.mem_of_getElem? LL) i;refine ⟨i,l,LL,?_,?_,fU⟩
 ·rcases h2 with rfl|rfl<;>rfl
 ·have hg:ga s.de i=l.arc i:=by simp [ga,dL.de,h3]
  have AR:x.l.toNat=i:=by rcases h2 with rfl|rfl<;>rfl
  unfold fwd;rw [AR,hg,←a1];exact ⟨fun e=>by exact_mod_cast e,fun e=>by exact_mod_cast e⟩
theorem kL{w:World}{s:dL}{x:Arc}(hs:St H w σ)(bw:s.Ok)(hf:Row H bf [I s.many,vl,vt,vd])(hl:RL H vl s.dU)(hx:IF s.de x):
  aaq 242 [Pt bf,.agg x.v.toArray] w fun v w'=>v= .bool (decide (fwd s.de x))∧St H w' σ:=by
 obtain ⟨i,l,BP,AR,hfw,Km⟩:=G8 bw hx;have Xq:cellAt H bf 1=some vl:=hf.at 1;refine Cl.o func242 ntmps242 ag2 ?_;refine .af (.bx hs fun b3 w hs=>?_);refine .zn zg (.seq (.draw mix rfl hs fun w hs=>?_));refine .zw 0 rfl zm ?_;refine .z 1 rfl znc ?_;refine .z 2 rfl (zfa fO) ?_;refine .z 3 rfl (zfa cN) ?_;refine .y 4 rfl hs lg ?_;refine .z 5 rfl (zfa dD) ?_;refine .y 6 rfl hs aj ?_;refine .ixX (i:=7) hs rfl aF .none hl rfl rfl bK eL BP AR ?_;intro oE o12 kD;have hA:cellAt H oE o12=some (I l.A):=kD.get 0 rfl;refine .zw 8 rfl (zfa eR) ?_;refine .y 9 rfl hs aj ?_;refine .z 10 rfl (zfa cM) ?_;refine .y 11 rfl hs aj ?_;refine .z 12 rfl fW ?_;refine .z 13 rfl zg ?_;refine .D hs ?_;exact .ret (Fin.aW results242 rfl ⟨by simp only [decide_eq_decide.2 hfw],hs.out⟩)
theorem qz{w:World}{u v:Nat}{s:dL}{ts:List Int}{wt:Nat→Int}{p:List Arc}(hs:St H w (.blk bt (Is ts):: .blk bl (Is lf++sp)::σ))(bw:s.Ok)
  (hf:Row H bf [I s.many,vl,.slice (some ⟨bt,0,none⟩) ts.length ts.length,.slice (some ⟨bl,0,none⟩) lf.length cl]) (hl:RL H vl s.dU) (hp:RS H 4 vp (p.map Arc.v)) (hI:Cv s.n s.de wt ts lf) (hw:Rz s.de ts lf s.n p u v) (QD:p≠[]) (GB:p.length<s.n):
  aaq 195 [Pt bf,vp] w fun _ w'=>St H w' (.blk bt (Is (fX s.de (vP s.de ts lf p u v) ts p)):: .blk bl (Is (Fo lf (vP s.de ts lf p u v) u v)++sp)::σ):=by
 have Yn:=bw.m1;have Na:s.n≤65:=by simp only [dL.n];have:=bw.m0;omega
 have HQ:G9 s.de:=fun i x hx=>⟨tJ hx,(bw.de.2 x (List.mem_of_getElem? hx)).2.2.2.2.2⟩
 have fU:=hI.lt;have vS:=hI.ll;obtain ⟨m0,m1,m2,m3⟩:=BA fU.symm HQ hw;have hsu:=hI.sg u hw.un;have hsv:=hI.sg v hw.vn;have OE:u<lf.length:=by rw [vS];exact hw.un
 have Vi:v<lf.length:=by rw [vS];exact hw.vn
 obtain ⟨a,cap,Zg⟩:=hp.shape;rw [List.length_map] at Zg;subst Zg;have hp0:0<p.length:=List.length_pos_iff.2 QD;obtain ⟨x0,CB⟩:=nth hp0;obtain ⟨x1,BM⟩:=nth (l:=p) (k:=p.length - 1) ak;have hh:=hw.ch.head CB;have Vw:=hw.ch.last BM;have TQ:cellAt H bf 2=some (.slice (some ⟨bt,0,none⟩) ts.length ts.length):=hf.at 2;have VC:cellAt H bf 3=some (.slice (some ⟨bl,0,none⟩) lf.length cl):=hf.at 3;have TK:∀x∈p,IF s.de x∧x.l.toNat<ts.length∧x.l=(x.l.toNat:Int):=fun x hx=>by
  obtain ⟨g1,g2,_⟩:=nJ fU.symm HQ (hw.mem x hx);obtain ⟨i,l,_,g3,_⟩:=G8 bw g1;exact ⟨g1,g2,by rw [g3];simp⟩
 simp only [FF] at hsu hsv;have OD:v≠u:=fun e=>by have:=hw.lu;have:=hw.lv;rw [e] at*;omega
 have htt:∀i<ts.length,0≤gi ts i∧gi ts i≤3600000000000:=fun i hi=>by
  have h1:=hI.nn i ak;have h2:=hI.tb i ak;have h3:0≤rem s.n lf:=db fun v _=>by omega
  simp only [FF] at h2;omega
 have hM:vP s.de ts lf p u v=least s.de ts (min (-gi lf u) (gi lf v)) p:=rfl;generalize vP s.de ts lf p u v=M at*;have Xo:gi (lf.set u (gi lf u+M)) v=gi lf v:=by rw [iI OE,if_neg OD]
 refine Cl.o func195 ntmps195 ag2 ?_;refine .seq (.draw mix rfl hs fun w hs=>?_);refine .zw 0 rfl zm (.ixX (i:=1) hs rfl aF .none hp rfl rfl aI aQ CB rfl ?_);intro oE o12 kD;have aag:cellAt H oE (o12+0)=some (I u):=by rw [←hh];exact kD.get 0 rfl
 refine .zw 2 rfl (zfa cM) ?_;refine .y 3 rfl hs aj ?_;refine .z 4 rfl zm ?_;refine .z 5 rfl zm ?_;refine .z 6 rfl (bT aI) ?_;refine .z 7 rfl jj ?_;refine .ixX (i:=8) hs rfl aF .none hp rfl rfl aI aQ BM ak ?_;intro Cj o19 j9;have h21:cellAt H Cj (o19+1)=some (I v):=by rw [←Vw];exact j9.get 1 rfl
 refine .zw 9 rfl (zfa cZ) ?_;refine .y 10 rfl hs aj ?_;refine .z 11 rfl zg ?_;refine .z 12 rfl zg ?_;refine .D hs ?_;refine .seq (.draw mix rfl hs fun w hs=>?_);refine .zw 0 rfl zm ?_;refine .z 1 rfl znc ?_;refine .z 2 rfl (zfa dE) ?_;refine .y 3 rfl hs aC ?_;refine .z 4 rfl zm ?_;first|(refine .ixv 5 rfl hs ai an ?_;intro Aq o27 rV)|refine .z 5 rfl (zix ai an) ?_
 refine .load (i:=6) hs rfl aF .none rfl aj ?_ (hv:=gV OE sp);refine .zw 7 rfl Ob ?_;refine .z 8 rfl zm ?_;refine .z 9 rfl znc ?_;refine .z 10 rfl (zfa dE) ?_;refine .y 11 rfl hs aC ?_;refine .z 12 rfl zm ?_;first|(refine .ixv 13 rfl hs ai an ?_;intro Rw o35 uP)|refine .z 13 rfl (zix ai an) ?_
 refine .load (i:=14) hs rfl aF .none rfl aj ?_ (hv:=gV Vi sp);refine .zw 15 rfl LW ?_;refine .z 16 rfl zg ?_;refine .D hs ?_;refine .seq (.af (.z zm (.z (bT aI) (.zn zm (.for (N:=p.length) (J:=fun k fr w=>fr=[(38,.slice a p.length cap),(6,I (least s.de ts (min (-gi lf u) (gi lf v)) (p.take k))),(0,Pt bf),(1,.slice a p.length cap),(4,I u),(5,I v)]∧St H w (.blk bt (Is ts):: .blk bl (Is lf++sp)::σ)) ak ?_ ?_ ?_)))))
 ·exact .mk ⟨rfl,hs⟩
 ·rintro k fr w hk ⟨rfl,hs⟩;obtain ⟨x,hx⟩:=nth hk;obtain ⟨g1,g2,g3⟩:=TK x (List.mem_of_getElem? hx);refine .block (.af (.ixX hs hp rfl rfl aI aQ hx rfl ?_));intro VT o42 Kw;refine .q hs (bj (vs:=x.v) rfl oY aQ Kw) (.o (.alloc hs fS rfl fun b8 w hs=>?_));refine .o (.aL (vs:=x.v) hs rfl rfl aQ fun w hs=>?_);refine .nil (.af (.z zm (.q hs (gY (vs:=x.v) rfl oY aQ) (.o (.call call242 rfl (kL hs bw hf hl g1) ?_)))));rintro _ w ⟨rfl,hs⟩;refine .zn fF (.cond rfl (fun qt=>?_) (fun qt=>?_))
  ·refine .draw mix rfl hs fun w hs=>?_
   refine .zw 0 rfl zm ?_;refine .z 1 rfl zm ?_;refine .z 2 rfl znc ?_;refine .z 3 rfl (zfa ie) ?_;refine .y 4 rfl hs aC ?_;refine .z 5 rfl (zfa dD) ?_;refine .y 6 rfl hs aj ?_;refine .zw 7 rfl (l6 (k:=x.l.toNat) rfl rfl ai an g3 g2) (.y 8 rfl hs aj ?_);refine .z 9 rfl LW ?_;refine .z 10 rfl zg ?_;refine .D hs ?_;refine nB (nT ?_);have e:min (least s.de ts (min (-gi lf u) (gi lf v)) (p.take k)) (gi ts x.l.toNat)=least s.de ts (min (-gi lf u) (gi lf v)) (p.take (k+1)):=by rw [eH hx,AO,if_neg (by simpa using qt)]
   exact .mk ⟨rfl,hs.tail⟩ (hs:= .cons rfl (.cons rfl (.cons rfl (.dw rfl e (.cons rfl (.cons rfl (.cons rfl (.cons rfl (.nil rfl rfl)))))))))
  ·refine .skip (nB (nT ?_));have e:least s.de ts (min (-gi lf u) (gi lf v)) (p.take k)=least s.de ts (min (-gi lf u) (gi lf v)) (p.take (k+1)):=by rw [eH hx,AO,if_pos (by simpa using qt)]
   exact .mk ⟨rfl,hs.tail⟩ (hs:= .cons rfl (.cons rfl (.cons rfl (.dw rfl e (.cons rfl (.cons rfl (.cons rfl (.cons rfl (.nil rfl rfl)))))))))
 ·rintro fr w ⟨rfl,hs⟩;have e6:least s.de ts (min (-gi lf u) (gi lf v)) (List.take p.length p)=M:=by rw [List.take_length];exact hM.symm
  rw [e6];refine nT (.seq (.af (.z zm (.z (bT aI) (.zn zm (.for (N:=p.length) (J:=fun k fr w=>fr=[(59,.slice a p.length cap),(6,I M),(0,Pt bf),(1,.slice a p.length cap),(4,I u),(5,I v)]∧St H w (.blk bt (Is (fX s.de M ts (p.take k))):: .blk bl (Is lf++sp)::σ)) ak ?_ ?_ ?_))))))
  ·exact .mk ⟨rfl,hs⟩
  ·rintro k fr w hk ⟨rfl,hs⟩;obtain ⟨x,hx⟩:=nth hk;obtain ⟨g1,g2,g3⟩:=TK x (List.mem_of_getElem? hx);have hpl2:=nG s.de M (p.take k) ts;have IW:=JG (es:=s.de) (m:=M) (ts:=ts) (p:=p.take k) ak (by simp only [FF];omega) (by rw [List.length_take];omega) (fun y hy=>(TK y (List.mem_of_mem_take hy)).2.1) x.l.toNat;have h9:=htt _ g2;refine .block (.af (.ixX hs hp rfl rfl aI aQ hx rfl ?_));intro b63 o63 wN;refine .q hs (bj (vs:=x.v) rfl oY aQ wN) (.o (.alloc hs fS rfl fun jr w hs=>?_));refine .o (.aL (vs:=x.v) hs rfl rfl aQ fun w hs=>?_);refine .nil (.af (.z zm (.q hs (gY (vs:=x.v) rfl oY aQ) (.o (.call call242 rfl (kL hs bw hf hl g1) ?_)))));rintro _ w ⟨rfl,hs⟩;refine .nil (.cond rfl (fun FD=>?_) (fun FD=>?_))
   ·refine .draw mix rfl hs fun w hs=>?_
    refine .zw 0 rfl zm ?_;refine .z 1 rfl znc ?_;refine .z 2 rfl (zfa ie) ?_;refine .y 3 rfl hs aC ?_;refine .z 4 rfl (zfa dD) ?_;refine .y 5 rfl hs aj ?_;refine .zw 6 rfl (l6 (k:=x.l.toNat) rfl rfl ai an g3 g2) (.y 7 rfl hs aj ?_);refine .z 8 rfl zm ?_;refine .z 9 rfl cC ?_;refine .zw 10 rfl (l6 (k:=x.l.toNat) rfl rfl ai an g3 g2) (.E 11 hs ?_);refine .store hs rfl rfl an ?_;intro w hs;refine .go (.D hs (nB (nT ?_)));have e:fX s.de M ts (p.take (k+1))=(fX s.de M ts (p.take k)).set x.l.toNat (gi (fX s.de M ts (p.take k)) x.l.toNat+M):=by rw [eH hx,yp,push,if_pos (by simpa using FD)]
    exact .mk ⟨rfl,by rw [e];exact hs.tail⟩
   ·refine .draw mix rfl hs fun w hs=>?_
    refine .zw 0 rfl zm ?_;refine .z 1 rfl znc ?_;refine .z 2 rfl (zfa ie) ?_;refine .y 3 rfl hs aC ?_;refine .z 4 rfl (zfa dD) ?_;refine .y 5 rfl hs aj ?_;refine .zw 6 rfl (l6 (k:=x.l.toNat) rfl rfl ai an g3 g2) (.y 7 rfl hs aj ?_);refine .z 8 rfl zm ?_;refine .z 9 rfl jj ?_;refine .zw 10 rfl (l6 (k:=x.l.toNat) rfl rfl ai an g3 g2) (.E 11 hs ?_);refine .store hs rfl rfl an ?_;intro w hs;refine .go (.D hs (nB (nT ?_)));have e:fX s.de M ts (p.take (k+1))=(fX s.de M ts (p.take k)).set x.l.toNat (gi (fX s.de M ts (p.take k)) x.l.toNat - M):=by rw [eH hx,yp,push,if_neg (by simpa using FD)]
    exact .mk ⟨rfl,by rw [e];exact hs.tail⟩
  ·rintro fr w ⟨rfl,hs⟩;rw [List.take_length] at hs;refine nT (.af (.z zm (.z znc (.z (zfa dE) (.y hs (zld aC) (.z zm ?_))))));first|(refine .ixv hs ai an ?_;intro b96 o96 Nk)|refine .z (zix ai an) ?_
   refine .q hs (eM rfl aj (hv:=gV OE sp)) (.z zm (.z cC ?_));first|(refine .ixv hs ai an ?_;intro YO o100 D2)|refine .z (zix ai an) ?_
   refine .o (.store hs rfl rfl an ?_ cg (tE OE sp) (nD OE sp _));intro w hs;refine .nil (.region (.z zm (.z znc (.z (zfa dE) (.y hs (zld aC) (.z zm ?_))))));first|(refine .ixv hs ai an ?_;intro YM o106 D1)|refine .z (zix ai an) ?_
   refine .q hs (eM rfl aj (hv:=gV (by rw [List.length_set];exact Vi) sp)) ?_;refine .z zm (.z jj ?_);first|(refine .ixv hs ai an ?_;intro b110 o110 ZQ)|refine .z (zix ai an) ?_
   refine .o (.store hs rfl rfl an ?_ cg (tE (by rw [List.length_set];exact Vi) sp) (nD (by rw [List.length_set];exact Vi) sp _));intro w hs;exact .nil (Fin.zG results195 hs)
theorem JV{w:List Int}{N:Nat}(hw:w.length=N+1):gi (w.set 0 (-mf w k)) 0 - gi (w.set 0 (-mf w k)) (k+1)= -mf w (k+1):=by
 rw [iI ak,iI ak,if_pos rfl,if_neg ak];simp only [mf,aZ];omega
theorem zb{w:World}{v:Value}{s:dL}(hs:St H w σ)(bw:s.Ok)(hr:RSy H v s)(DQ:RI H vw ws)(LF:ws.length=s.n)(rQ:jW ws)(Ka:s.Sound):
  aaq 123 [v,vw] w fun v w'=>(v= .tuple #[.pointer none,.bool false]∧sj s.de (sn ws s.n) s.n∧St H w' σ)∨
   (∃H1 bf bt bl cl ts lf vl sp,HLe H H1∧v= .tuple #[Pt bf,.bool true]∧As H1 bf s ts lf vl bt bl cl sp∧wm s.n s.de (sn ws s.n) ts∧St H1 w' σ):=by
 obtain ⟨vl,rfl,hr⟩:=hr;obtain ⟨al,cpl,rfl⟩:=RL.shape hr;obtain ⟨aw,cw,rfl⟩:=RI.shape DQ;obtain ⟨N,hN⟩:=Int.eq_ofNat_of_zero_le bw.m0;have Yn:=bw.m1;have hn:s.n=N+1:=by simp [dL.n,hN]
 have Xe:=bw.len;have sZ:=bw.de;have Nu:s.de.length=s.dU.length:=by simp [dL.de,eK]
 have HQ:G9 s.de:=fun i x hx=>⟨tJ hx,(bw.de.2 x (List.mem_of_getElem? hx)).2.2.2.2.2⟩
 have fH:∀x∈s.de,x.f<s.n∧x.t<s.n:=fun x hx=>by have:=sZ.2 x hx;omega
 have Wz:=Od ws (n:=s.n) ak;unfold jW at rQ;rw [LF] at rQ;refine Cl.o func123 ntmps123 ag2 ?_;refine .af (.bx hs fun b2 w hs=>?_);refine .z zg (.zn zg (.scope (.cut (fun fs w=>∃bf bt bl cl sp,ob fs ⟨73,[],[(6,Pt bf)]⟩∧St H w (.blk bf [I s.many,.slice al s.dU.length cpl,.slice (some ⟨bt,0,none⟩) s.dU.length s.dU.length,.slice (some ⟨bl,0,none⟩) ws.length cl]:: .blk bt (Is (List.replicate s.dU.length 0)):: .blk bl (Is ws++sp)::σ)) ?_ ?_)))
 ·refine .draw mix rfl hs fun w hs=>?_
  refine .ys 0 rfl hs [_,_] ea bR ?_;refine .z 1 rfl (zfa cN) ?_;refine .y 2 rfl hs lg ?_;refine .z 3 rfl (bT bK) ?_;refine .z 5 rfl zm ?_;refine .e2 (i:=4) (j:=6) aF rfl rfl rfl rfl .none .none hs ?_ ?_
  ·refine .Dt s.dU.length hs rfl rfl ai tP rfl an dM ak ?_;intro Ll w hs;refine .go (.E 6 hs ?_);refine .call call193 rfl (iS hs DQ ak) ?_;rintro v17 w ⟨en17,hO,hs⟩;obtain ⟨bl,cl,sp,rfl,rfl,z6⟩:=hO.some ak;refine .go (.zw 7 rfl (zbd [_,_,_,_] q6) (.E 8 hs ?_));refine .box hs rfl rfl ?_;intro Cj w hs;refine .go (.zw 9 rfl zg ?_);refine .D hs ?_;exact nT ⟨Cj,Ll,bl,cl,sp,bg,hs.sb⟩
  ·refine .call call193 rfl (iS hs DQ ak) ?_;rintro v17 w ⟨en17,hO,hs⟩;obtain ⟨bl,cl,sp,rfl,rfl,z6⟩:=hO.some ak;refine .go (.E 4 hs ?_);refine .Dt s.dU.length hs rfl rfl ai tP rfl an dM ak ?_;intro Ll w hs;refine .go (.zw 7 rfl (zbd [_,_,_,_] q6) (.E 8 hs ?_));refine .box hs rfl rfl ?_;intro Cj w hs;refine .go (.zw 9 rfl zg ?_);refine .D hs ?_;exact nT ⟨Cj,Ll,bl,cl,sp,bg,hs.sb⟩
 ·rintro fs w ⟨bf,bt,bl,cl,sp,j8,hs⟩;refine WE.sub ?_ j8;obtain ⟨H1,az,X7,hs⟩:=hs.bG .here;have hf0:cellAt H1 bf 0=some (I (N:Int)):=by have:=X7.at 0 (v:=I s.many);rwa [hN] at this
  have VC:cellAt H1 bf 3=some (.slice (some ⟨bl,0,none⟩) ws.length cl):=X7.at 3;have EL:=hr.mono az;refine .af (.z zm (.z znc (.z (zfa dE) (.y hs (zld aC) (.q hs (l6 (k:=0) rfl rfl ai an rfl ak) (.o (.store hs rfl rfl an ?_ cg (tE ak sp) (nD ak sp _))))))));intro w hs;refine .nil (.seq (.af (.z zm (.z znc (.z (zfa fO) (.z (zfa bS) (.y hs (zld aj) (.zn zm (.for (N:=N) (J:=fun k fr w=>fr=[(6,Pt bf)]∧St H1 w (.blk bt (Is (List.replicate s.dU.length 0)):: .blk bl (Is (ws.set 0 (-mf ws k))++sp)::σ)) ak ?_ ?_ ?_)))))))))
  ·exact .mk ⟨rfl,by simpa [mf,aZ] using hs⟩
  ·rintro k fr w hk ⟨rfl,hs⟩;have e:=JV (w:=ws) (N:=N) (k:=k) ak;have D6:=AD ws (k+1);have AV:bD ws (k+1+1)≤bD ws s.n:=uq (fun v=>by omega) ak;simp only [FF] at rQ;refine .block (.af (.z zm (.zn zg (.draw mix rfl hs fun w hs=>?_))));refine .zw 0 rfl zm ?_;refine .z 1 rfl znc ?_;refine .z 2 rfl (zfa dE) ?_;refine .y 3 rfl hs aC ?_;refine .zw 4 rfl (l6 (k:=0) rfl rfl ai an rfl ak) (.load (i:=5) hs rfl aF .none rfl aj ?_ (hv:=gV (by rw [List.length_set];omega) sp));refine .zw 6 rfl zm ?_;refine .z 7 rfl znc ?_;refine .z 8 rfl (zfa dE) ?_;refine .y 9 rfl hs aC ?_;refine .z 10 rfl zm ?_;refine .z 11 rfl cC ?_;refine .zw 12 rfl (l6 (k:=k+1) rfl rfl ai an ak ak) (.load (i:=13) hs rfl aF .none rfl aj ?_ (hv:=gV (by rw [List.length_set];omega) sp));refine .zw 14 rfl jj (.zw 15 rfl (l6 (k:=0) rfl rfl ai an rfl ak) (.E 16 hs ?_));refine .store hs rfl rfl an ?_ cg (tE (by rw [List.length_set];omega) sp) (nD (by rw [List.length_set];omega) sp _);intro w hs;refine .go (.D hs (nB (nT ?_)));rw [e,List.set_set] at hs;exact .mk ⟨rfl,hs⟩
  ·rintro fr w ⟨rfl,hs⟩;have D8:Cv s.n s.de (sn ws s.n) (List.replicate s.dU.length 0) (ws.set 0 (-mf ws N)):=by
    rw [←Nu,hn];rw [hn] at rQ;refine Cv.start rQ (by rw [List.length_set];omega) (fun v hv=>?_) Ka;rw [iI ak]
    cases v with
    |zero=>rw [if_pos rfl,EZ]
    |succ v=>rw [if_neg ak,E0]
   refine nT (.seq (.label (nT (.block ?_))));refine .loop (fun _:bp×List Int×List Int=>⟨73,[],[(6,Pt bf)]⟩)
    (fun p w=>HLe H1 p.1∧Cv s.n s.de (sn ws s.n) p.2.1 p.2.2∧St p.1 w (.blk bt (Is p.2.1):: .blk bl (Is p.2.2++sp)::σ)) (fun p=>(rem s.n p.2.2).toNat) (H1,List.replicate s.dU.length 0,ws.set 0 (-mf ws N))
    bg ⟨HLe.refl _,D8,hs⟩ ?_
   rintro ⟨H2,ts,lf⟩ w ⟨aN,hI,hs⟩;dsimp only at aN hI hs ⊢;have fU:=hI.lt;have vS:=hI.ll;have Nw:Row H2 bf [I s.many,.slice al s.dU.length cpl,.slice (some ⟨bt,0,none⟩) ts.length ts.length,.slice (some ⟨bl,0,none⟩) lf.length cl]:=by
    rw [fU,Nu,vS,←LF];exact X7.mono aN
   have hf32:cellAt H2 bf 3=some (.slice (some ⟨bl,0,none⟩) lf.length cl):=Nw.at 3;refine .block (.seq (.af (.z zm (.z znc (.z (zfa dE) (.y hs (zld aC) (.z (bT ai) (.zn zm (.for (N:=lf.length) (J:=fun k fr w=>fr=[(53,.slice (some ⟨bl,0,none⟩) lf.length cl),(6,Pt bf)]∧(∀v<k,gi lf v≤0)∧St H2 w (.blk bt (Is ts):: .blk bl (Is lf++sp)::σ)) ak ?_ ?_ ?_)))))))))
   ·exact .mk ⟨rfl,fun v hv=>by omega,hs⟩
   ·rintro k fr w hk ⟨rfl,fA,hs⟩;refine .block (.af (.z zm ?_));first|(refine .ixv hs ai an ?_;intro UM o58 s6)|refine .z (zix ai an) ?_
    refine .q hs (eM rfl aj (hv:=gV hk sp)) (.z zg (.zn zg (.seq (.af (.z zm (.zn ql (.bQ rfl (fun Ku=>?_) (fun Ku=>?_))))))))
    ·refine .exit (xT (xB (nT ?_)));exact .mk ⟨rfl,fun v hv=>by
       by_cases e:v=k
       ·subst e;exact Ku
       ·exact fA v ak,hs⟩
    ·refine .skip (nT (.af (.z zm (.z zm ?_))));obtain ⟨Ha,Vw,hra,hsa,-,hba⟩:=hs.Fp;obtain ⟨Hb,IV,hrb,hsb,-,Ab⟩:=hsa.Fp;refine .o (.call call194 rfl (sc (s:=s) (to:=k) hsb bw ⟨Nw.mono (Vw.trans IV),hr.mono (az.trans (aN.trans (Vw.trans IV))),hra.mono IV,hrb⟩ ak ak hI.fe ak ak) ?_);rintro v64 w ⟨Hc,p,en,OT,hO,CC,ZX⟩;have hs:=hba (HLe.refl _) (Ab OT CC);obtain ⟨ap,lp,cp,rfl,hlp⟩:=hO.shape;obtain rfl:lp=p.length:=by rw [dB] at hlp;omega
     refine .zn zg (.seq (.af (.z zm (.z (bT aI) (.zn fW (.bQ rfl (fun FD=>?_) (fun FD=>?_)))))))
     ·refine .af (.z zg (.zn zg (.ret (rT (rB (rT (rB (rT (rB (rT (rB (rS (Fin.mh results123 rfl rfl ?_)))))))))))))
      rcases ZX with ⟨_,R,hS,hR,tV⟩|⟨hp,_⟩
      ·exact .inl ⟨rfl,hI.open fH hS hR ak tV ak,(hs.le (az.trans aN)).out⟩
      ·exact (hp (List.length_eq_zero_iff.1 ak)).elim
     ·refine .skip (nT (.af (.z zm (.z zm ?_))));obtain ⟨hp,GB,u,hw⟩:=ZX.resolve_left fun h=>by rw [h.1] at FD;exact FD rfl
      obtain ⟨H3,bA,hRS,hs⟩:=bE.bG (cs:=p.map Arc.v) hO (fun c hc=>by simp only [List.mem_map] at hc;obtain ⟨x,_,rfl⟩:=hc;rfl) ak (by rw [List.length_map];omega) hs cg;refine .o (.call call195 rfl (qz hs bw (Nw.mono bA) (hr.mono (az.trans (aN.trans bA))) hRS hI hw hp GB) ?_);rintro v70 w hs;refine .nil (.exit (xN (xT (xN (xT (xB (nT ?_)))))));obtain ⟨q1,q2⟩:=hI.send HQ hw ak;have q3:0≤rem s.n (Fo lf (vP s.de ts lf p u k) u k):=db fun v _=>by omega
      exact ⟨(H3,fX s.de (vP s.de ts lf p u k) ts p,Fo lf (vP s.de ts lf p u k) u k),bg,⟨aN.trans bA,q1,hs⟩,by dsimp only;omega⟩
   ·rintro fr w ⟨rfl,fA,hs⟩;refine nT (.af (.z zm (.z zg (.zn zg (.ret (rB (rT (rB (rS (Fin.mh results123 rfl rfl ?_))))))))));obtain ⟨H3,l3,r3,hs⟩:=hs.bG .here;obtain ⟨H4,l4,r4,hs⟩:=hs.bG .here;exact .inr ⟨H4,bf,bt,bl,cl,ts,lf,_,sp,az.trans (aN.trans (l3.trans l4)),rfl,⟨Nw.mono (l3.trans l4),hr.mono (az.trans (aN.trans (l3.trans l4))),r3.mono l4,r4⟩,hI.ok fH Wz (fun v hv=>fA v ak),hs⟩
theorem tC{w:World}{v:Value}(hs:St H w σ)(hr:RI H v ws):aaq 190 [v] w fun v w'=>∃b,v= .bool b∧(b=true↔jW ws)∧St H w' σ:=by
 obtain ⟨a,c,rfl⟩:=RI.shape hr;have hl:=(RI.len hr).2.2;refine Cl.o func190 ntmps190 ag1 ?_;refine .af (.zn zg (.af (.zn zg (.seq (.af (.z zm (.z (bT ai) (.zn zm (.for (N:=ws.length) (J:=fun k fr w=>fr=[(6,.slice a ws.length c),(3,I (3600000000000 - bD ws k))]∧bD ws k≤3600000000000∧St H w σ) ak ?_ ?_ ?_)))))))))
 ·exact .mk ⟨rfl,by simp [bD,aZ],hs⟩
 ·rintro k fr w hk ⟨rfl,hle,hs⟩;have hx:=ck hk;have h0:0≤bD ws k:=db fun v _=>by omega
  have h1:bD ws (k+1)=bD ws k+max (gi ws k) (-gi ws k):=rfl;refine .block (.af ?_);first|(refine .ixv hs ai an ?_;intro jr o10 wQ)|refine .z (zix ai an) ?_
  refine .y hs (zld aj) (.zn zg (.seq (.af (.z zm (.z zm (.z Ob (.z fT (.z zm (.jK (t':=16) rfl (fun mJ=>?_) (fun mJ=>?_))))))))))
  ·exact .Fs 3 4 false (.zn zpT (.cT (.af (.zn zg (.ret (rT (rB (rT (rB (rT (Fin.aW results190 rfl ⟨false,rfl,⟨fun h=>(by cases h),fun h=>(AF (k:=k+1) hk (by simp only [FF];omega) h).elim⟩,hs⟩)))))))))))
  ·refine .T (.z zm (.T (.z zm (.T (.z nE (.zn zpF (.bQ rfl (fun uR=>?_) (fun uR=>?_))))))))
   ·exact .af (.zn zg (.ret (rT (rB (rT (rB (rT (Fin.aW results190 rfl ⟨false,rfl,⟨fun h=>(by cases h),fun h=>(AF (k:=k+1) hk (by simp only [FF];omega) h).elim⟩,hs⟩))))))))
   ·exact .skip (nT (.region (.z zm (.z zm (.z zm (.z Ob (.z RO (.z jj (.zn zg (nB (nT (.mk ⟨rfl,ak,hs⟩ (hs:= .cons rfl (.cons rfl (.cons rfl (.dw rfl ak (.nil rfl rfl)))))))))))))))))
 ·rintro fr w ⟨rfl,hle,hs⟩;exact nT (.af (.zn zg (.ret (Fin.aW results190 rfl ⟨true,rfl,⟨fun _=>hle,fun _=>rfl⟩,hs⟩))))
theorem nY{w:World}{v:Value}{s:dL}(hs:St H w σ)(hr:RSy H v s)(DQ:RI H vw ws):aaq 121 [v,vw] w fun v w'=>v=I (il s ws)∧St H w' σ:=by
 obtain ⟨vl,rfl,hr⟩:=hr;obtain ⟨al,cpl,rfl⟩:=RL.shape hr;obtain ⟨aw,cw,rfl⟩:=RI.shape DQ;have hlw:=(RI.len DQ).2.2;have hn:s.check=0→0≤s.many∧s.many≤64∧(s.n:Int)=s.many+1:=fun h=>by
  have h1:=s.jz.1 h;have:=h1.m0;have:=h1.m1;simp only [dL.n];omega
 refine Cl.o func121 ntmps121 ag2 ?_;refine .af (.bx hs fun b2 w hs=>?_);refine .zn zg (.seq (.af (.y hs (zls [_,_] ea bR) (.o (.call call189 rfl (oD (s:=s) hs ⟨_,rfl,hr⟩) ?_)))));rintro _ w ⟨rfl,hs⟩;refine .zn zg (.af (.z zm (.zn gv (.gN rfl (fun sr=>?_) (fun sr=>?_)))))
 ·exact .af (.z zm (.zn zg (.ret (rT (Fin.aW results121 rfl ⟨by unfold il;rw [if_pos sr],hs.tail⟩)))))
 ·refine .skip (nT (.seq (.af (.z zm ?_))));obtain ⟨n0,n1,n2⟩:=hn sr;refine .z (bT ai) (.z (zfa bS) (.y hs (zld aj) (.z cC (.z gv (.z zm (.G2 (t':=17) rfl (fun FJ=>?_) (fun FJ=>?_)))))))
  ·exact .Fs 3 6 false (.zn zpT (.cT (.af (.zn zg (.ret (rT (Fin.aW results121 rfl ⟨by unfold il;rw [if_neg ak,if_neg ak],hs.tail⟩)))))))
  ·refine .T (.z zm (.T (.o (.call call190 rfl (tC hs DQ) ?_))));rintro _ w ⟨bz,rfl,ZS,hs⟩;refine .T (.z fF (.zn zpF (.cond rfl (fun s9=>?_) (fun s9=>?_))))
   ·exact .af (.zn zg (.ret (rT (Fin.aW results121 rfl ⟨by unfold il;rw [if_neg ak,if_neg (fun h=>by rw [ZS.2 h.2] at s9;cases s9)],hs.tail⟩))))
   ·exact .skip (nT (.af (.zn zg (.ret (Fin.aW results121 rfl ⟨by unfold il;rw [if_neg ak,if_pos ⟨ak,ZS.1 (by simpa using s9)⟩],hs.tail⟩)))))
theorem k7{w:World}{v:Value}{s:dL}(hs:St H w σ)(hr:RSy H v s)(DQ:RI H vw ws):
  aaq 68 [v,vw] w fun v w'=>∃H1 e pf,HLe H H1∧v= .tuple #[pf,I e]∧Lx s ws e∧St H1 w' σ∧(e≠0→pf= .pointer none)∧
   (e=0→∃bf bt bl cl ts lf vl sp,pf=Pt bf∧As H1 bf s ts lf vl bt bl cl sp∧wm s.n s.de (sn ws s.n) ts∧s.Ok∧bD ws s.n≤FF):=by
 obtain ⟨vl,rfl,hr⟩:=hr;refine Cl.o func68 ntmps68 ag2 ?_;refine .af (.bx hs fun b2 w hs=>?_);refine .z zg (.zn zg (.seq (.af (.y hs (zls [_,_] ea bR) (.z zm (.o (.call call121 rfl (nY (s:=s) hs ⟨_,rfl,hr⟩ DQ) ?_)))))));rintro _ w ⟨rfl,hs⟩;refine .zn zg (.af (.z zm (.zn gv (.gN rfl (fun iH=>?_) (fun iH=>?_)))))
 ·exact .af (.z zm (.z zg (.zn zg (.ret (rT (Fin.mh results68 rfl rfl ⟨H,_,_,HLe.refl _,rfl,.bad iH,hs.tail,fun _=>rfl,fun h=>(iH h).elim⟩))))))
 ·refine .skip (nT (.seq (.af (.y hs (zls [_,_] ea bR) ?_))));obtain ⟨bw,LF,rQ⟩:=zp iH;refine .o (.call call122 rfl (tB (s:=s) hs bw ⟨_,rfl,hr⟩) ?_);rintro _ w ⟨H1,b,az,rfl,hb,hs⟩;refine .zn fF (.cond rfl (fun kS=>?_) (fun kS=>?_))
  ·exact .af (.z zg (.zn zg (.ret (rT (Fin.mh results68 rfl rfl ⟨H1,_,_,az,rfl,.clash iH (fun h=>by rw [hb.2 h] at kS;cases kS),hs.tail,fun _=>rfl,fun h=>by cases h⟩)))))
  ·refine .skip (nT (.af (.y hs (zls [_,_] ea bR) (.z zm ?_))));have Ka:s.Sound:=hb.1 (by simpa using kS);refine .o (.call call123 rfl (zb (s:=s) hs bw ⟨_,rfl,hr.mono az⟩ (DQ.mono az) LF rQ Ka) ?_);rintro v21 w kC;obtain ⟨pf,bb,H2,aN,rfl,hs,hT,hF⟩:∃pf bb H2,HLe H1 H2∧v21= .tuple #[pf,.bool bb]∧St H2 w (.blk b2 [I s.many,vl]::σ)∧(bb=false→pf= .pointer none∧sj s.de (sn ws s.n) s.n)∧
     (bb=true→∃bf bt bl cl ts lf vl sp,pf=Pt bf∧As H2 bf s ts lf vl bt bl cl sp∧wm s.n s.de (sn ws s.n) ts):=by
    rcases kC with ⟨rfl,h1,h2⟩|⟨H2,bf,bt,bl,cl,ts,lf,vl,sp,h1,rfl,h2,h3,h4⟩
    ·exact ⟨_,false,H1,HLe.refl _,rfl,h2,fun _=>⟨rfl,h1⟩,fun h=>by cases h⟩
    ·exact ⟨_,true,H2,h1,rfl,h4,fun h=>(by cases h),fun _=>⟨bf,bt,bl,cl,ts,lf,vl,sp,rfl,h2,h3⟩⟩
   refine .z zm (.z zex (.z zex (.z zg (.zn zg (.seq (.af (.z zm (.zn fF (.cond rfl (fun jq=>?_) (fun jq=>?_))))))))))
   ·exact .af (.z zg (.zn zg (.ret (rT (Fin.mh results68 rfl rfl ⟨H2,_,_,az.trans aN,rfl,.opn iH Ka (hT (by simpa using jq)).2,hs.tail,fun _=>rfl,fun h=>by cases h⟩)))))
   ·refine .skip (nT (.af (.z zm (.z zg (.zn zg (.ret (Fin.mh results68 rfl rfl ?_)))))));obtain ⟨bf,bt,bl,cl,ts,lf,vl,sp,rfl,h2,h3⟩:=hF (by simpa using jq);have Vs:0<s.n:=by simp [dL.n]
    have yJ:s.n≤65:=by have:=bw.m0;have:=bw.m1;simp only [dL.n];omega
    have Td:bD ws s.n≤FF:=by unfold jW at rQ;rwa [LF] at rQ
    exact ⟨H2,_,_,az.trans aN,rfl,.ok iH Ka (h3.value Vs yJ bw.de Td).2.1,hs.tail,fun h=>(h rfl).elim,fun _=>⟨bf,bt,bl,cl,ts,lf,vl,sp,rfl,h2,h3,bw,Td⟩⟩
theorem ij{w:World}{s:dL}{ts:List Int}(hs:St H w σ)(bw:s.Ok)(hF:As H bf s ts lf vl bt bl cl sp)(Pb:wm s.n s.de (sn ws s.n) ts)(rQ:bD ws s.n≤FF):
  aaq 69 [Pt bf] w fun v w'=>v=I (dot s.de ts (·.c))∧Lr s.de (s.wt ws) s.n (dot s.de ts (·.c))∧dot s.de ts (·.c)≤BB∧-BB≤dot s.de ts (·.c)∧St H w' σ:=by
 obtain ⟨aaa,Z9,hFt,hFd⟩:=hF;obtain ⟨al,cpl,rfl⟩:=RL.shape Z9;have Xe:=bw.len;have Nu:s.de.length=s.dU.length:=by simp [dL.de,eK]
 have fU:=Pb.lt;have Vs:0<s.n:=by simp [dL.n]
 have yJ:s.n≤65:=by have:=bw.m0;have:=bw.m1;simp only [dL.n];omega
 have hv:=Pb.value Vs yJ bw.de rQ;have hd:=K5 (es:=s.de) fU;have Xq:cellAt H bf 1=some (.slice al s.dU.length cpl):=aaa.at 1;have TQ:cellAt H bf 2=some (.slice (some ⟨bt,0,none⟩) ts.length ts.length):=aaa.at 2;refine Cl.o func69 ntmps69 ag1 ?_;refine .af (.zn zg (.af (.zn zg (.seq (.af (.z zm (.z znc (.z (zfa fO) (.z (zfa cN) (.y hs (zld lg) (.z (bT bK) (.zn zm (.for (N:=s.dU.length) (J:=fun k fr w=>fr=[(10,.slice al s.dU.length cpl),(3,I (IntKind.i64.wrap (Im s.de ts k))),(0,Pt bf)]∧St H w σ) ak ?_ ?_ ?_)))))))))))))
 ·exact .mk ⟨rfl,hs⟩ (hs:= .cons rfl (.cons rfl (.cons rfl (.dw rfl (by simp [Im,aZ,AQ]) (.cons rfl (.nil rfl rfl))))))
 ·rintro k fr w hk ⟨rfl,hs⟩;obtain ⟨l,hl⟩:=nth hk;have hg:(ga s.de k).c=l.M:=by simp [ga,dL.de,lK hl,Lim.arc]
  have Xd:=bw.lim l (List.mem_of_getElem? hl);have OU:k<ts.length:=by omega
  have WH:=Pb.nn k ak;have hct:cellAt H bt k=some (I (gi ts k)):=hFt.at k (js OU);have hmul:gi ts k*l.M≤72000000000000000∧-72000000000000000≤gi ts k*l.M:=by
   simp only [FF] at WH;have g1:gi ts k*l.M≤gi ts k*20000:=Int.mul_le_mul_of_nonneg_left Xd.2.2.2.1.2 WH.1;have g2:gi ts k*(-20000)≤gi ts k*l.M:=Int.mul_le_mul_of_nonneg_left Xd.2.2.2.1.1 WH.1;omega
  refine .block (.af (.z zm (.ixX hs Z9 rfl rfl bK eL hl rfl ?_)));intro Ll o15 pA;refine .q hs (bj (vs:=l.c) rfl Y5 eL pA) (.o (.alloc hs zy rfl fun b5 w hs=>?_));refine .z zg (.o (.aL (vs:=l.c) hs rfl rfl eL fun w hs=>?_));refine .nil (.draw mix rfl hs fun w hs=>?_);refine .zw 0 rfl zm ?_;refine .z 1 rfl zm ?_;refine .z 2 rfl znc ?_;refine .z 3 rfl (zfa ie) ?_;refine .y 4 rfl hs aC ?_;refine .z 5 rfl zm ?_;refine .zw 6 rfl (l6 (k:=k) rfl rfl ai an rfl OU) (.r (i:=7) hs rfl aF .none (aR rfl aj hct) ?_);refine .zw 8 rfl (zfa iM) ?_;refine .y 9 rfl hs aj ?_;refine .z 10 rfl oq ?_;refine .zw 11 rfl (JF rfl rfl) (.zw 12 rfl zg ?_);refine .D hs ?_;exact nB (nT (.mk ⟨rfl,hs.tail⟩ (hs:= .cons rfl (.cons rfl (.cons rfl (.dw rfl (by rw [Fu];simp only [Im,aZ,hg]) (.cons rfl (.nil rfl rfl))))))))
 ·rintro fr w ⟨rfl,hs⟩;rw [←Nu,←hd,mH (by have:=hv.2.2;simp only [BB] at this;omega)];exact nT (.af (.z zm (.zn zg (.ret (Fin.aW results69 rfl ⟨rfl,hv.1,hv.2.2.1,hv.2.2.2,hs⟩)))))
theorem zd{w:World}{v:Value}{s:dL}(hs:St H w σ)(hr:RSy H v s)(DQ:RI H vw ws):
  aaq 25 [v,vw] w fun v w'=>∃H1 n e,HLe H H1∧v= .tuple #[I n,I e]∧sm s ws n e∧St H1 w' σ:=by
 obtain ⟨vl,rfl,hr⟩:=hr;refine Cl.o func25 ntmps25 ag2 ?_;refine .af (.bx hs fun b2 w hs=>?_);refine .z zg (.zn zg (.af (.y hs (zls [_,_] ea bR) (.z zm (.o (.call call68 rfl (k7 (s:=s) hs ⟨_,rfl,hr⟩ DQ) ?_))))));rintro _ w ⟨H1,e,pf,az,rfl,hA,hs,eG,heq⟩;refine .z zm (.z zex (.z zex (.z zg (.zn zg (.seq (.af (.z zm (.zn gv (.gN rfl (fun pA=>?_) (fun pA=>?_))))))))))
 ·exact .af (.z zm (.z zg (.zn zg (.ret (rT (Fin.mh results25 rfl rfl ⟨H1,_,_,az,rfl,⟨hA,fun _=>rfl,fun h=>(pA h).elim⟩,hs.tail⟩))))))
 ·refine .skip (nT (.af (.z zm ?_)));subst pA;obtain ⟨bf,bt,bl,cl,ts,lf,vl,sp,rfl,hF,Pb,bw,rQ⟩:=heq rfl;refine .o (.call call69 rfl (ij hs bw hF Pb rQ) ?_);rintro _ w ⟨rfl,h1,h2,h3,hs⟩;exact .z zg (.zn zg (.ret (Fin.mh results25 rfl rfl ⟨H1,_,_,az,rfl,⟨hA,fun h=>(h rfl).elim,fun _=>⟨h1,h2,h3⟩⟩,hs.tail⟩)))
theorem vq{w:World}(hs:St H w σ)(DQ:RI H vw ws)(hlw:ws.length≤1000000)(hb:∀k,-9223372036854775807≤gi ws k∧gi ws k≤9223372036854775807):
  aaq 299 [vw] w fun v w'=>∃H1,HLe H H1∧RI H1 v (Gt ws)∧St H1 w' σ:=by
 obtain ⟨aw,cw,rfl⟩:=RI.shape DQ;refine Cl.o func299 ntmps299 ag1 ?_;refine .af (.zn zg (.af (.z zm (.z (bT ai) (.o (.Dt ws.length hs rfl rfl ai tP rfl an dM ak fun b8 w hs=>?_))))));refine .zn zg (.seq (.af (.z zm (.z (bT ai) (.zn zm (.for (N:=ws.length) (J:=fun k fr w=>fr=[(9,.slice aw ws.length cw),(3,.slice (some ⟨b8,0,none⟩) ws.length ws.length)]∧∃L,(L.length=ws.length∧∀v<ws.length,gi L v=if v<k then -gi ws v else 0)∧St H w (.blk b8 (Is L)::σ)) ak ?_ ?_ ?_))))))
 ·exact .mk ⟨rfl,_,⟨aU,fun v hv=>by rw [eO _ _ hv,if_neg ak]⟩,hs⟩
 ·rintro k fr w hk ⟨rfl,L,⟨Sa,Uq⟩,hs⟩;have hx:=ck hk;have Np:=hb k;refine .block (.af (.z zm ?_));first|(refine .ixv hs ai an ?_;intro tZ o14 fq)|refine .z (zix ai an) ?_
  refine .y hs (zld aj) (.z zg (.zn zg (.region (.z zm (.z zm (.z zm (.z Ob ?_)))))));first|(refine .ixv hs ai an ?_;intro US o20 uR)|refine .z (zix ai an) ?_
  refine .o (.store hs rfl rfl an fun w hs=>?_);refine .nil (nB (nT (.mk ⟨rfl,_,⟨by rw [List.length_set];exact Sa,fun v hv=>?_⟩,hs⟩)));rw [iI ak];by_cases e:v=k
  ·subst e;rw [if_pos rfl,if_pos ak]
  ·rw [if_neg e,Uq v hv];congr 1;apply propext;omega
 ·rintro fr w ⟨rfl,L,⟨Sa,Uq⟩,hs⟩;obtain rfl:L=Gt ws:=Pp (by simp [Sa,Gt]) (fun k hk=>by rw [Uq k ak,if_pos ak,Pg]);refine nT (.af (.z zm (.zn zg (.ret (Fin.aW results299 rfl ?_)))));obtain ⟨H1,g1,g2,hs⟩:=hs.bG .here;refine ⟨H1,g1,?_,hs⟩;rw [←Sa];exact Row.RI (spare:=[]) (by simpa using g2) _ (Nat.le_refl _) ak
theorem w9{w:World}{v:Value}{s:dL}(hs:St H w σ)(hr:RSy H v s)(DQ:RI H vw ws):
  aaq 269 [v,vw] w fun v w'=>∃H1 lo hi e,HLe H H1∧v= .tuple #[I lo,I hi,I e]∧oG s ws lo hi e∧St H1 w' σ:=by
 obtain ⟨vl,rfl,hr⟩:=hr;refine Cl.o func269 ntmps269 ag2 ?_;refine .af (.bx hs fun b2 w hs=>?_);refine .z zg (.z zg (.zn zg (.af (.y hs (zls [_,_] ea bR) (.z zm (.o (.call call68 rfl (k7 (s:=s) hs ⟨_,rfl,hr⟩ DQ) ?_)))))));rintro _ w ⟨H1,e,pf,az,rfl,hA,hs,eG,heq⟩;refine .z zm (.z zex (.z zex (.z zg (.zn zg (.seq (.af (.z zm (.zn gv (.gN rfl (fun dO=>?_) (fun dO=>?_))))))))))
 ·exact .af (.z zm (.z zg (.z zg (.zn zg (.ret (rT (Fin.V4 results269 rfl rfl rfl ⟨H1,_,_,_,az,rfl,.first ⟨hA,fun _=>rfl,fun h=>(dO h).elim⟩ dO,hs.tail⟩)))))))
 ·refine .skip (nT (.seq (.draw mix rfl hs fun w hs=>?_)));refine .ys 0 rfl hs [_,_] ea bR ?_;refine .z 1 rfl zm ?_;refine .E 2 hs ?_;subst dO;obtain ⟨bf,bt,bl,cl,ts,lf,tU,sp,rfl,hF,Pb,bw,rQ⟩:=heq rfl;have LF:=(zp hA.zero.1).2.1;have hbw:∀k,-9223372036854775807≤gi ws k∧gi ws k≤9223372036854775807:=fun k=>by
   simp only [FF] at rQ;by_cases hk:k<s.n
   ·have:=pZ ws hk;omega
   ·have:gi ws k=0:=by simp [gi,List.getElem?_eq_none (show ws.length≤k by omega)]
    omega
  refine .call call299 rfl (vq hs (DQ.mono az) (by have:=bw.m1;simp only [dL.n] at LF;omega) hbw) ?_;rintro v21 w ⟨H2,aN,W1,hs⟩;refine .go (.E 3 hs ?_);refine .call call68 rfl (k7 (s:=s) hs ⟨_,rfl,hr.mono (az.trans aN)⟩ W1) ?_;rintro _ w ⟨H3,e2,pg,bA,rfl,NC,hs,hne2,Xs⟩;refine .go (.zw 4 rfl zm ?_);refine .z 5 rfl zex ?_;refine .z 6 rfl zex ?_;refine .z 7 rfl zg ?_;refine .z 8 rfl zg ?_;refine .D hs ?_;refine .seq (.af (.z zm (.zn gv (.gN rfl (fun jo=>?_) (fun jo=>?_)))))
  ·refine .af (.z zm (.z zg (.z zg (.zn zg (.ret (rT (Fin.V4 results269 rfl rfl rfl ?_)))))));obtain ⟨q1,q2,q3,q4⟩:=Pb.value (by simp [dL.n]) (by have:=bw.m0;have:=bw.m1;simp only [dL.n];omega) bw.de rQ;exact ⟨H3,_,_,_,az.trans (aN.trans bA),rfl,.second ⟨hA,fun h=>(h rfl).elim,fun _=>⟨q1,q3,q4⟩⟩ ⟨NC,fun _=>rfl,fun h=>(jo h).elim⟩ jo,hs.tail⟩
  ·refine .skip (nT (.af (.z zm ?_)));subst jo;obtain ⟨bf2,bt2,bl2,cl2,ts2,lf2,vl2,sp2,rfl,Q6,Ys,hok2,WJ⟩:=Xs rfl;refine .o (.call call69 rfl (ij hs bw Q6 Ys WJ) ?_);rintro _ w ⟨rfl,a1,a2,a3,hs⟩;simp only [BB] at a2 a3;refine .z Ob (.z zm (.o (.call call69 rfl (ij hs bw (hF.mono (aN.trans bA)) Pb rQ) ?_)));rintro _ w ⟨rfl,c1,c2,c3,hs⟩;exact .z zg (.z zg (.zn zg (.ret (Fin.V4 results269 rfl rfl rfl ⟨H3,_,_,_,az.trans (aN.trans bA),rfl,.ok ⟨hA,fun h=>(h rfl).elim,fun _=>⟨c1,c2,c3⟩⟩ ⟨NC,fun h=>(h rfl).elim,fun _=>⟨a1,by simp only [BB];omega,by simp only [BB];omega⟩⟩,hs.tail⟩))))
theorem Mo{n:Int}(hm:0<m):(n.tmod m+m).tmod m=n%m:=by
 have h2:=Int.lt_tmod_of_pos n hm;rw [Int.tmod_eq_emod_of_nonneg ak,Int.tmod_def,show n - m*n.tdiv m+m=n+m*(1 - n.tdiv m) by rw [Int.mul_sub];omega,Int.add_mul_emod_self_left]
theorem yg{w:World}{v:Value}{i n:Int}(hs:St H w σ)(hr:RI H v l)(hi:0≤i)(hn:n≤4611686018427387904):aaq 138 [v,I i,I n] w fun v w'=>v=I (sJ l i n)∧St H w' σ:=by
 obtain ⟨a,c,rfl⟩:=RI.shape hr;have hlen:=(RI.len hr).2.2;refine Cl.o func138 ntmps138 ag3 ?_;refine .af (.zn zg (.seq (.af (.z zm (.z (bT ai) (.z fW (.z zm (.jK (t':=10) rfl (fun nL=>?_) (fun nL=>?_)))))))))
 ·exact .Fs 2 3 false (.zn zpT (.cT (.af (.zn zg (.ret (rT (Fin.aW results138 rfl ⟨by rw [show sJ l i n=0 by unfold sJ;rw [if_pos (.inl (List.length_eq_zero_iff.1 ak))]],hs⟩)))))))
 ·refine .T (.z zm (.T (.z fT (.zn zpF (.bQ rfl (fun iH=>?_) (fun iH=>?_))))))
  ·exact .af (.zn zg (.ret (rT (Fin.aW results138 rfl ⟨by rw [show sJ l i n=0 by unfold sJ;rw [if_pos (.inr ak)]],hs⟩))))
  ·refine .skip (nT (.af (.z zm (.z zm (.z zm (.z (bT ai) ?_))))));have Zy:0<l.length:=by omega
   have h1:=Int.tmod_nonneg (a:=i) (l.length:Int) hi;have h2:=Int.tmod_lt_of_pos i (b:=(l.length:Int)) ak;have hx:=ck (l:=l) (i:=(i.tmod (l.length:Int)).toNat) ak;have h3:=Int.tmod_lt_of_pos (gi l (i.tmod (l.length:Int)).toNat) (b:=n) ak;have h4:=Int.lt_tmod_of_pos (gi l (i.tmod (l.length:Int)).toNat) (b:=n) ak;have e:=Mo (n:=gi l (i.tmod (l.length:Int)).toNat) (m:=n) ak;refine .z IQ (.ixY hs hr rfl rfl ai an hx ak ?_);intro Cj o19 j9;exact .q hs (aR rfl aj j9) (.z zm (.z IQ (.z zm (.z cC (.z zm (.z IQ (.zn zg (.ret (Fin.aW results138 rfl ⟨by unfold sJ;rw [if_neg (fun h=>h.elim (fun h=>by rw [h] at Zy;exact Nat.lt_irrefl _ Zy) (fun h=>by omega)),←e],hs⟩)))))))))
def A9(i j:Nat):Int:=if i=j then 0 else free
theorem PN{n:Nat}(es:List Arc){T:Nat→Nat→Int}(h:∀i j,i<n→j<n→T i j=A9 i j):RA n es 0 T:=
 ⟨fun i hi=>by rw [h i i hi hi];simp [A9],fun _ _ h=>by omega,fun i j hi hj OW=> .inl (by rw [h i j hi hj];simp [A9,OW])⟩
set_option maxHeartbeats 4000000 in
theorem x9{w:World}{v:Value}{s:dL}(hs:St H w σ)(hr:RSy H v s)(bw:s.Ok):
  aaq 135 [v] w fun u w'=>∃H1 rs,HLe H H1∧RT H1 u rs∧Sq s.n rs∧ma s.n s.de (gt rs)∧St H1 w' σ:=by
 obtain ⟨ul,rfl,hl⟩:=hr;obtain ⟨al,cl,rfl⟩:=RL.shape hl;have HR:=bw.m0;have LK:=bw.m1;have hlen:=bw.len;have Zr:=s.JN;have Na:=bw.n65;have Ng:=bw.inn;have Vt:s.many+1=(s.n:Int):=by simp only [dL.n];omega
 generalize hn:s.n=n at Zr Na Ng Vt ⊢;refine Cl.o func135 ntmps135 ag1 ?_;refine .af (.bx hs fun b1 w hs=>?_);refine .zn zg (.af (.z (zfa bS) ?_));first|refine .q hs (eM rfl aj (hm:=by repeat (first|exact .here|assumption|exact Mem.row ak ak|refine .there ?_|refine Mem.xi ?_)) (hv:=by first|rfl|exact ff ak|exact mb cW ak ak|exact js l9)) ?_|refine .q hs (aR rfl aj cW) ?_
 refine .z cC ?_;rw [Vt];refine .zn zg (.af (.z zm (.o (.SU n hs rfl rfl aK typeInfo22 rfl aP mQ ak fun vC w hs=>?_))));refine .zn zg (.seq (.af (.z zm (.z (bT aK) (.zn zm (.for (N:=n) (J:=fun k fr w=>fr=[(3,I (n:Int)),(4,.slice (some ⟨vC,0,none⟩) n n),(1,Pt b1)]∧∃bs:List Nat,bs.length=k∧St H w (.blk vC (bs.map (ptr n)++List.replicate (n - k) (.slice none 0 0))::(mF bs (IS A9 n k)++(.blk b1 [I s.many,.slice al s.dU.length cl]::σ)))) ak ?_ ?_ ?_))))))
 ·exact .mk ⟨rfl,[],rfl,hs⟩
 ·rintro k fr w hk ⟨rfl,bs,LN,hs⟩;refine .block (.af (.z zm (.zn zg (.af (.z zm (.z zm (.z zm (.o (.Dt n hs rfl rfl ai tP rfl an dM ak fun Lj w hs=>?_)))))))));first|(refine .ixw hs aK aP ?_;intro YD o26 jo)|refine .z (zix aK aP) ?_
  refine .o (.store hs rfl rfl aP ?_ cg (by simp [LN];omega) (Qd LN hk));intro w hs;refine .nil (.af (.z zm (.z zm ?_)));first|(refine .ixw hs aK aP ?_;intro UQ o29 Aa)|refine .z (zix aK aP) ?_
  refine .q hs (eM rfl aC (hv:=Gn LN)) (.z (bT ai) (.zn zm (.for (N:=n) (J:=fun j fr w=>fr=[(5,I (k:Int)),(19,I (k:Int)),(18,I (n:Int)),(3,I (n:Int)),(4,.slice (some ⟨vC,0,none⟩) n n),(1,Pt b1)]∧St H w (.blk Lj (Is ((List.range n).map fun c=>if c<j∧k≠c then free else 0)):: .blk vC ((bs++[Lj]).map (ptr n)++List.replicate (n - (k+1)) (.slice none 0 0))::(mF bs (IS A9 n k)++(.blk b1 [I s.many,.slice al s.dU.length cl]::σ)))) ak ?_ ?_ ?_)))
  ·rw [Fe (fun c=>if c<0∧k≠c then free else 0) n 0 (fun j _=>by simp)] at hs;exact .mk ⟨rfl,hs⟩
  ·rintro j fr w hj ⟨rfl,hs⟩;refine .block (.af (.z zm (.zn zg (.af (.z zm (.z zm (.zn gv (.gN rfl (fun rR=>?_) (fun rR=>?_)))))))))
   ·refine .region (.z zm (.z zm ?_));first|(refine .ixw hs aK aP ?_;intro UO o40 uO)|refine .z (zix aK aP) ?_
    refine .q hs (eM rfl aC (hv:=Gn LN)) (.z zm ?_);first|(refine .ixv hs ai an ?_;intro UN o43 BR)|refine .z (zix ai an) ?_
    refine .o (.store hs rfl rfl an ?_ cg (G0 (by simp;omega)) (Ez _ _ _));intro w hs;refine .nil (nB (nT ?_));rw [Jv _ (fun c=>if c<j+1∧k≠c then free else 0) hj 1000000000 (fun c _=>by
     by_cases e:c=j
     ·subst e;rw [if_pos rfl,if_pos ⟨ak,ak⟩]
     ·rw [if_neg e];congr 1;apply propext;omega)] at hs
    exact .mk ⟨rfl,hs⟩
   ·refine .skip (nB (nT ?_));rw [yj (g:=fun c=>if c<j+1∧k≠c then free else 0) (fun c _=>by
     by_cases e:c=j
     ·subst e;rw [if_neg ak,if_neg ak]
     ·congr 1;apply propext;omega)] at hs
    exact .mk ⟨rfl,hs⟩
  ·rintro fr w ⟨rfl,hs⟩;rw [yj (g:=A9 k) (fun c hc=>by
    unfold A9;by_cases e:k=c
    ·rw [if_neg ak,if_pos e]
    ·rw [if_pos ⟨hc,e⟩,if_neg e])] at hs
   replace hs:=hs.V2 (by rw [LN,E6]);rw [←Je] at hs;exact nB (nT (.mk ⟨rfl,bs++[Lj],by simp [LN],hs⟩))
 ·rintro fr w ⟨rfl,bs,LN,hs⟩;rw [Nat.sub_self,List.replicate_zero,List.append_nil] at hs;refine nT (.seq (.af (.z (zfa cN) ?_)));first|refine .q hs (eM rfl lg (hm:=by repeat (first|exact .here|assumption|exact Mem.row ak ak|refine .there ?_|refine Mem.xi ?_)) (hv:=by first|rfl|exact ff ak|exact mb cW ak ak|exact js l9)) ?_|refine .q hs (aR rfl lg cW) ?_
  refine .z (bT bK) (.zn zm (.for (N:=s.dU.length) (J:=fun k fr w=>fr=[(47,.slice al s.dU.length cl),(4,.slice (some ⟨vC,0,none⟩) n n)]∧∃rs,Sq n rs∧RA n s.de k (gt rs)∧St H w (.blk vC (bs.map (ptr n))::(mF bs rs++(.blk b1 [I s.many,.slice al s.dU.length cl]::σ)))) ak ?_ ?_ ?_))
  ·exact .mk ⟨rfl,_,PU A9 n,PN s.de (fun i j hi hj=>PV A9 hi hj),hs⟩
  ·rintro k fr w hk ⟨rfl,rs,hq,hB,hs⟩;obtain ⟨x,hx⟩:=nth (l:=s.dU) hk;have EL:=hq.1;obtain ⟨⟨xa0,xa1⟩,⟨xb0,xb1⟩,xne,xM,-⟩:=bw.lim x (List.mem_of_getElem? hx);have ha:x.A.toNat<n:=by omega
   have hb:x.B.toNat<n:=by omega
   have hga:=lK hx;refine .block (.af (.ixX (enc:=Lim.c) hs hl rfl rfl bK eL hx rfl ?_));intro aal o51 XL;refine .q hs (bj (vs:=x.c) rfl Y5 eL XL) (.o (.alloc hs zy rfl fun b8 w hs=>?_));refine .o (.aL (vs:=x.c) hs rfl rfl eL fun w hs=>?_);refine .nil (.draw mix rfl hs fun w hs=>?_);refine .zw 0 rfl zm ?_;refine .z 1 rfl (zfa eR) ?_;first|refine .load (i:=2) hs rfl aF .none rfl aj ?_ (by repeat (first|exact .here|assumption|exact Mem.row ak ak|refine .there ?_|refine Mem.xi ?_)) (by first|rfl|exact ff ak|exact mb cW ak ak|exact js l9)|refine .r (i:=2) hs rfl aF .none (aR rfl aj cW) ?_
   refine .zw 3 rfl (l6 (k:=x.A.toNat) rfl rfl aK aP ak ha) ?_;first|refine .load (i:=4) hs rfl aF .none rfl aC ?_ (by repeat (first|exact .here|assumption|exact Mem.row ak ak|refine .there ?_|refine Mem.xi ?_)) (by first|rfl|exact ff ak|exact mb cW ak ak|exact js l9)|refine .r (i:=4) hs rfl aF .none (aR rfl aC cW) ?_
   refine .zw 5 rfl (zfa fD) ?_;first|refine .load (i:=6) hs rfl aF .none rfl aj ?_ (by repeat (first|exact .here|assumption|exact Mem.row ak ak|refine .there ?_|refine Mem.xi ?_)) (by first|rfl|exact ff ak|exact mb cW ak ak|exact js l9)|refine .r (i:=6) hs rfl aF .none (aR rfl aj cW) ?_
   refine .zw 7 rfl zm ?_;refine .z 8 rfl (zfa eR) ?_;first|refine .load (i:=9) hs rfl aF .none rfl aj ?_ (by repeat (first|exact .here|assumption|exact Mem.row ak ak|refine .there ?_|refine Mem.xi ?_)) (by first|rfl|exact ff ak|exact mb cW ak ak|exact js l9)|refine .r (i:=9) hs rfl aF .none (aR rfl aj cW) ?_
   refine .zw 10 rfl (l6 (k:=x.A.toNat) rfl rfl aK aP ak ha) ?_;first|refine .load (i:=11) hs rfl aF .none rfl aC ?_ (by repeat (first|exact .here|assumption|exact Mem.row ak ak|refine .there ?_|refine Mem.xi ?_)) (by first|rfl|exact ff ak|exact mb cW ak ak|exact js l9)|refine .r (i:=11) hs rfl aF .none (aR rfl aC cW) ?_
   refine .zw 12 rfl (zfa fD) ?_;first|refine .load (i:=13) hs rfl aF .none rfl aj ?_ (by repeat (first|exact .here|assumption|exact Mem.row ak ak|refine .there ?_|refine Mem.xi ?_)) (by first|rfl|exact ff ak|exact mb cW ak ak|exact js l9)|refine .r (i:=13) hs rfl aF .none (aR rfl aj cW) ?_
   refine .zw 14 rfl (l6 (k:=x.B.toNat) rfl rfl ai an ak hb) ?_;first|refine .load (i:=15) hs rfl aF .none rfl aj ?_ (by repeat (first|exact .here|assumption|exact Mem.row ak ak|refine .there ?_|refine Mem.xi ?_)) (by first|rfl|exact ff ak|exact mb cW ak ak|exact js l9)|refine .r (i:=15) hs rfl aF .none (aR rfl aj cW) ?_
   refine .zw 16 rfl (zfa iM) ?_;first|refine .load (i:=17) hs rfl aF .none rfl aj ?_ (by repeat (first|exact .here|assumption|exact Mem.row ak ak|refine .there ?_|refine Mem.xi ?_)) (by first|rfl|exact ff ak|exact mb cW ak ak|exact js l9)|refine .r (i:=17) hs rfl aF .none (aR rfl aj cW) ?_
   refine .zw 18 rfl LW (.zw 19 rfl (l6 (k:=x.B.toNat) rfl rfl ai an ak hb) (.ET 20 hs ?_));refine .store hs rfl rfl an ?_ (.there (.there (Upd.row _ ak ak))) (G0 (by rw [hq.2 _ ha];exact hb)) (Ez _ _ _);intro w hs;exact .go (.DT hs (nB (nT (.mk ⟨rfl,_,hq.set ha _,by rw [Pe hq ha hb];exact hB.step Ng hga,hs.tail⟩))))
  ·rintro fr w ⟨rfl,rs,hq,hB,hs⟩;rw [←eK] at hB;have hI:=hB.go Ng Zr;have Nj:∀x∈s.de,-20000≤x.c∧x.c≤20000:=fun x hx=>by have:=Ng x hx;omega
   refine nT (.seq (.af (.z zm (.z (bT aK) (.zn zm (.for (N:=n) (J:=fun m fr w=>fr=[(4,.slice (some ⟨vC,0,none⟩) n n)]∧∃rs,Sq n rs∧(m<n→CF n s.de m (fun _ _=>False) (gt rs))∧(m=n→ma n s.de (gt rs))∧St H w (.blk vC (bs.map (ptr n))::(mF bs rs++(.blk b1 [I s.many,.slice al s.dU.length cl]::σ)))) ak ?_ ?_ ?_))))))
   ·exact .mk ⟨rfl,rs,hq,fun _=>hI,fun e=>by omega,hs⟩
   ·clear hI hB hq;rintro m fr w hm ⟨rfl,rs,hq,hI,-,hs⟩;replace hI:=hI hm;refine .block (.af (.z zm (.zn zg (.af (.z zm (.z (bT aK) (.zn zm (.for (N:=n) (J:=fun i fr w=>fr=[(9,I (m:Int)),(76,I (m:Int)),(75,I (n:Int)),(4,.slice (some ⟨vC,0,none⟩) n n)]∧∃rs,Sq n rs∧CF n s.de m (fun a _=>a<i) (gt rs)∧St H w (.blk vC (bs.map (ptr n))::(mF bs rs++(.blk b1 [I s.many,.slice al s.dU.length cl]::σ)))) ak ?_ ?_ ?_))))))))
    ·exact .mk ⟨rfl,rs,hq,hI.skip Nj hm (P:=fun _ _=>False) (fun i j h=>by omega) (fun _ _ _ _ h=>h.elim),hs⟩
    ·clear hI hq;rintro i fr w hi ⟨rfl,rs,hq,hI,hs⟩;refine .block (.af (.z zm (.zn zg (.af (.z zm (.z (bT aK) (.zn zm (.for (N:=n) (J:=fun k fr w=>fr=[(10,I (i:Int)),(81,I (i:Int)),(80,I (n:Int)),(9,I (m:Int)),(76,I (m:Int)),(75,I (n:Int)),(4,.slice (some ⟨vC,0,none⟩) n n)]∧∃rs,Sq n rs∧CF n s.de m (fun a b=>a<i∨(a=i∧b<k)) (gt rs)∧St H w (.blk vC (bs.map (ptr n))::(mF bs rs++(.blk b1 [I s.many,.slice al s.dU.length cl]::σ)))) ak ?_ ?_ ?_))))))))
     ·exact .mk ⟨rfl,rs,hq,hI.skip Nj hm (P:=fun _ _=>False) (fun a b h=>by omega) (fun _ _ _ _ h=>h.elim),hs⟩
     ·clear hI hq;rintro k fr w hk ⟨rfl,rs,hq,hI,hs⟩;have EL:=hq.1;have c1:=hI.cl i m hi hm;have c2:=hI.cl m k hm hk;have u1:=hI.up i m hi hm;have u2:=hI.up m k hm hk;refine .block (.af (.z zm (.zn zg (.af (.z zm (.z zm ?_))))));first|(refine .ixw hs aK aP ?_;intro b91 o91 hc91)|refine .z (zix aK aP) ?_
      first|refine .q hs (eM rfl aC (hm:=by repeat (first|exact .here|assumption|exact Mem.row ak ak|refine .there ?_|refine Mem.xi ?_)) (hv:=by first|rfl|exact ff ak|exact mb cW ak ak|exact js l9)) ?_|refine .q hs (aR rfl aC cW) ?_
      refine .z zm ?_;first|(refine .ixv hs ai an ?_;intro b94 o94 TU)|refine .z (zix ai an) ?_
      first|refine .q hs (eM rfl aj (hm:=by repeat (first|exact .here|assumption|exact Mem.row ak ak|refine .there ?_|refine Mem.xi ?_)) (hv:=by first|rfl|exact ff ak|exact mb cW ak ak|exact js l9)) ?_|refine .q hs (aR rfl aj cW) ?_
      refine .z gv (.z zm (.G2 (t':=97) rfl (fun D4=>?_) (fun D4=>?_)))
      ·refine .T (.z zm (.T (.z zm (.T ?_))));first|(refine .ixw hs aK aP ?_;intro YO o100 D2)|refine .z (zix aK aP) ?_
       refine .T ?_;first|refine .q hs (eM rfl aC (hm:=by repeat (first|exact .here|assumption|exact Mem.row ak ak|refine .there ?_|refine Mem.xi ?_)) (hv:=by first|rfl|exact ff ak|exact mb cW ak ak|exact js l9)) ?_|refine .q hs (aR rfl aC cW) ?_
       refine .T (.z zm (.T ?_));first|(refine .ixv hs ai an ?_;intro b103 o103 ZR)|refine .z (zix ai an) ?_
       refine .T ?_;first|refine .q hs (eM rfl aj (hm:=by repeat (first|exact .here|assumption|exact Mem.row ak ak|refine .there ?_|refine Mem.xi ?_)) (hv:=by first|rfl|exact ff ak|exact mb cW ak ak|exact js l9)) ?_|refine .q hs (aR rfl aj cW) ?_
       refine .T (.z gv (.zn zpT (.gN rfl (fun D1=>?_) (fun D1=>?_))))
       ·refine .draw mix rfl hs fun w hs=>?_
        replace u1:=u1 D4;replace u2:=u2 D1;refine .zw 0 rfl zm ?_;refine .z 1 rfl zm ?_;first|(refine .ixw 2 rfl hs aK aP ?_;intro b109 o109 O4)|refine .z 2 rfl (zix aK aP) ?_
        first|refine .load (i:=3) hs rfl aF .none rfl aC ?_ (by repeat (first|exact .here|assumption|exact Mem.row ak ak|refine .there ?_|refine Mem.xi ?_)) (by first|rfl|exact ff ak|exact mb cW ak ak|exact js l9)|refine .r (i:=3) hs rfl aF .none (aR rfl aC cW) ?_
        refine .zw 4 rfl zm ?_;refine .z 5 rfl zm ?_;refine .z 6 rfl zm ?_;first|(refine .ixw 7 rfl hs aK aP ?_;intro b114 o114 ZP)|refine .z 7 rfl (zix aK aP) ?_
        first|refine .load (i:=8) hs rfl aF .none rfl aC ?_ (by repeat (first|exact .here|assumption|exact Mem.row ak ak|refine .there ?_|refine Mem.xi ?_)) (by first|rfl|exact ff ak|exact mb cW ak ak|exact js l9)|refine .r (i:=8) hs rfl aF .none (aR rfl aC cW) ?_
        refine .zw 9 rfl zm ?_;first|(refine .ixv 10 rfl hs ai an ?_;intro b117 o117 ZN)|refine .z 10 rfl (zix ai an) ?_
        first|refine .load (i:=11) hs rfl aF .none rfl aj ?_ (by repeat (first|exact .here|assumption|exact Mem.row ak ak|refine .there ?_|refine Mem.xi ?_)) (by first|rfl|exact ff ak|exact mb cW ak ak|exact js l9)|refine .r (i:=11) hs rfl aF .none (aR rfl aj cW) ?_
        refine .zw 12 rfl zm ?_;refine .z 13 rfl zm ?_;first|(refine .ixw 14 rfl hs aK aP ?_;intro b121 o121 ZM)|refine .z 14 rfl (zix aK aP) ?_
        first|refine .load (i:=15) hs rfl aF .none rfl aC ?_ (by repeat (first|exact .here|assumption|exact Mem.row ak ak|refine .there ?_|refine Mem.xi ?_)) (by first|rfl|exact ff ak|exact mb cW ak ak|exact js l9)|refine .r (i:=15) hs rfl aF .none (aR rfl aC cW) ?_
        refine .zw 16 rfl zm ?_;first|(refine .ixv 17 rfl hs ai an ?_;intro b124 o124 ZK)|refine .z 17 rfl (zix ai an) ?_
        first|refine .load (i:=18) hs rfl aF .none rfl aj ?_ (by repeat (first|exact .here|assumption|exact Mem.row ak ak|refine .there ?_|refine Mem.xi ?_)) (by first|rfl|exact ff ak|exact mb cW ak ak|exact js l9)|refine .r (i:=18) hs rfl aF .none (aR rfl aj cW) ?_
        refine .zw 19 rfl zm ?_;refine .z 20 rfl zm ?_;first|(refine .ixw 21 rfl hs aK aP ?_;intro YJ o128 T8)|refine .z 21 rfl (zix aK aP) ?_
        first|refine .load (i:=22) hs rfl aF .none rfl aC ?_ (by repeat (first|exact .here|assumption|exact Mem.row ak ak|refine .there ?_|refine Mem.xi ?_)) (by first|rfl|exact ff ak|exact mb cW ak ak|exact js l9)|refine .r (i:=22) hs rfl aF .none (aR rfl aC cW) ?_
        refine .zw 23 rfl zm ?_;first|(refine .ixv 24 rfl hs ai an ?_;intro b131 o131 ZJ)|refine .z 24 rfl (zix ai an) ?_
        first|refine .load (i:=25) hs rfl aF .none rfl aj ?_ (by repeat (first|exact .here|assumption|exact Mem.row ak ak|refine .there ?_|refine Mem.xi ?_)) (by first|rfl|exact ff ak|exact mb cW ak ak|exact js l9)|refine .r (i:=25) hs rfl aF .none (aR rfl aj cW) ?_
        refine .zw 26 rfl cC ?_;refine .z 27 rfl LW ?_;refine .z 28 rfl RO ?_;first|(refine .ixv 29 rfl hs ai an ?_;intro YG o136 ZI)|refine .z 29 rfl (zix ai an) ?_
        refine .ET 30 hs ?_;refine .store hs rfl rfl an ?_ (.there (Upd.row _ ak ak)) (G0 (by rw [hq.2 _ hi];exact hk)) (Ez _ _ _);intro w hs;exact .go (.DT hs (nB (nT (.mk ⟨rfl,_,hq.set hi _,by rw [Pe hq hi hk];exact hI.step Nj hm hi hk (fun a b h=>by omega) D4 D1,hs⟩))))
       ·exact .skip (nB (nT (.mk ⟨rfl,rs,hq,hI.skip Nj hm (P:=fun a b=>a=i∧b=k) (fun a b h=>by omega) (fun a b _ _ h=>by obtain ⟨rfl,rfl⟩:=h;exact .inr D1),hs⟩)))
      ·exact .Fs 8 8 true (.zn zpF (.cF (.skip (nB (nT (.mk ⟨rfl,rs,hq,hI.skip Nj hm (P:=fun a b=>a=i∧b=k) (fun a b h=>by omega) (fun a b _ _ h=>by obtain ⟨rfl,rfl⟩:=h;exact .inl D4),hs⟩))))))
     ·rintro fr w ⟨rfl,rs,hq,hI,hs⟩;exact nB (nT (.mk ⟨rfl,rs,hq,hI.skip Nj hm (P:=fun a b=>a=i∧n≤b) (fun a b h=>by omega) (fun a b _ hb h=>by omega),hs⟩))
    ·rintro fr w ⟨rfl,rs,hq,hI,hs⟩;replace hI:CF n s.de m (fun _ _=>True) (gt rs):=hI.skip Nj hm (P:=fun a _=>n≤a) (fun a b h=>by omega) (fun a b ha _ h=>by omega);exact nB (nT (.mk ⟨rfl,rs,hq,fun h=>hI.next Nj h Na,fun h=>hI.done Nj h.symm Na,hs⟩))
   ·rintro fr w ⟨rfl,rs,hq,-,hT,hs⟩;replace hT:=hT rfl;refine nT (.af (.z zm (.zn zg (.ret (Fin.aW results135 rfl ?_)))));obtain ⟨H1,g1,g2,hs⟩:=Be hq LN ak hs;exact ⟨H1,rs,g1,g2,hq,hT,hs.tail⟩
theorem wE{w:World}{vm:Value}{rs:List (List Int)}{n:Nat}(hs:St H w σ)(hM:RT H vm rs)(hq:Sq n rs)(hn:n≤1000):
  aaq 136 [vm] w fun v w'=>∃b,v= .bool b∧(b=true↔∀i,i<n→¬gt rs i i<0)∧St H w' σ:=by
 obtain ⟨a,c,rfl⟩:=hM.shape;have EL:=hq.1;refine Cl.o func136 ntmps136 ag1 ?_;refine .af (.zn zg (.seq (.af (.z zm (.z (bT aK) (.zn zm (.for (N:=rs.length) (J:=fun k fr w=>fr=[(0,.slice a rs.length c)]∧(∀i,i<k→¬gt rs i i<0)∧St H w σ) ak ?_ ?_ ?_)))))))
 ·exact .mk ⟨rfl,fun i h=>by omega,hs⟩
 ·rintro k fr w hk ⟨rfl,h0,hs⟩;refine .block (.af (.z zm (.zn zg (.af (.z zm (.z zm (.ixT hs hM rfl rfl aK aP hk rfl ?_)))))));intro EU o11 a11 c11 wP Yh;refine .q hs (aR rfl aC wP) (.z zm (.ixY hs Yh rfl rfl ai an (ck (l:=gr rs k) (i:=k) (by rw [hq.2 k ak];omega)) rfl ?_));intro tZ o14 fq;refine .q hs (aR rfl aj fq) (.zn fT (.bQ rfl (fun dO=>?_) (fun dO=>?_)))
  ·exact .af (.zn zg (.ret (rB (rT (rB (rT (Fin.aW results136 rfl ⟨false,rfl,⟨fun h=>(by cases h),fun h=>(h k ak dO).elim⟩,hs⟩)))))))
  ·refine .skip (nB (nT ?_));exact .mk ⟨rfl,fun i hi=>by
    by_cases e:i=k
    ·subst e;exact dO
    ·exact h0 i ak,hs⟩
 ·rintro fr w ⟨rfl,h0,hs⟩;exact nT (.af (.zn zg (.ret (Fin.aW results136 rfl ⟨true,rfl,⟨fun _ i hi=>h0 i ak,fun _=>rfl⟩,hs⟩))))
theorem je{p:Prop}[Decidable p]:(!decide p)=true↔¬p:=by simp
theorem hZ{p:Prop}[Decidable p]:(!decide p)=false↔p:=by simp
theorem eS{w:World}(hs:St H w σ):aaq 212 [I a0,I a1,I a2] w fun v w'=>v= .bool (decide (a1≤a0∧a0≤a2))∧St H w' σ:=by
 refine Cl.o func212 ntmps212 ag3 ?_;refine .af (.zn zg (.af (.z zm (.z zm (.z ql (.z zm (.jK (t':=10) rfl (fun nL=>?_) (fun nL=>?_))))))))
 ·exact .T (.z zm (.T (.z zm (.T (.z ql (.z zpT (.zn zg (.ret (Fin.aW results212 rfl ⟨by simp [*],hs.out⟩)))))))))
 ·exact .Fs 3 3 true (.z zpF (.zn zg (.ret (Fin.aW results212 rfl ⟨by simp [*],hs.out⟩))))
theorem po{w:World}{many:Int}{l:Lim}(hs:St H w σ):aaq 213 [I many,.agg l.c.toArray] w fun v w'=>v=I (if decide (0≤many∧many≤64)&&l.ok many then 0 else 20)∧St H w' σ:=by
 refine Cl.o func213 ntmps213 ag2 ?_;refine .af (.bx hs fun b3 w hs=>?_);refine .zn zg (.seq (.af (.z zm (.o (.call call212 rfl (eS hs) ?_)))));rintro _ w ⟨rfl,hs⟩;refine .z fF (.z zm (.bif (t':=8) rfl (fun IX=>?_) (fun IX=>?_)))
 ·refine .Fs 5 3 false (.z zpT (.z zm (.Fs 5 10 false (.z zpT (.z zm (.Fs 5 17 false (.z zpT (.z zm (.Fs 4 24 false (.z zpT (.z zm (.Fs 4 30 false (.zn zpT (.cT (.af (.zn zg (.ret (rT (Fin.aW CR rfl ?_)))))))))))))))))))
  (try simp only [je] at*)
  (try simp only [hZ] at*)
  refine ⟨congrArg I ?_,hs.out⟩;unfold Lim.ok;first
   |(rw [if_pos (by simp only [Bool.and_eq_true,decide_eq_true_eq];omega)];done)
   |(rw [if_neg (by simp only [Bool.and_eq_true,decide_eq_true_eq];omega)];done)
 ·refine .T (.z (zfa eR) (.T (.y hs (zld aj) (.T (.z zm (.T (.o (.call call212 rfl (eS hs) ?_))))))));rintro _ w ⟨rfl,hs⟩;refine .T (.z fF (.z zpF (.z zm (.bif (t':=15) rfl (fun D5=>?_) (fun D5=>?_)))))
  ·refine .Fs 5 10 false (.z zpT (.z zm (.Fs 5 17 false (.z zpT (.z zm (.Fs 4 24 false (.z zpT (.z zm (.Fs 4 30 false (.zn zpT (.cT (.af (.zn zg (.ret (rT (Fin.aW CR rfl ?_))))))))))))))))
   (try simp only [je] at*)
   (try simp only [hZ] at*)
   refine ⟨congrArg I ?_,hs.out⟩;unfold Lim.ok;first
    |(rw [if_pos (by simp only [Bool.and_eq_true,decide_eq_true_eq];omega)];done)
    |(rw [if_neg (by simp only [Bool.and_eq_true,decide_eq_true_eq];omega)];done)
  ·refine .T (.z (zfa fD) (.T (.y hs (zld aj) (.T (.z zm (.T (.o (.call call212 rfl (eS hs) ?_))))))));rintro _ w ⟨rfl,hs⟩;refine .T (.z fF (.z zpF (.z zm (.bif (t':=22) rfl (fun Q0=>?_) (fun Q0=>?_)))))
   ·refine .Fs 5 17 false (.z zpT (.z zm (.Fs 4 24 false (.z zpT (.z zm (.Fs 4 30 false (.zn zpT (.cT (.af (.zn zg (.ret (rT (Fin.aW CR rfl ?_)))))))))))))
    (try simp only [je] at*)
    (try simp only [hZ] at*)
    refine ⟨congrArg I ?_,hs.out⟩;unfold Lim.ok;first
     |(rw [if_pos (by simp only [Bool.and_eq_true,decide_eq_true_eq];omega)];done)
     |(rw [if_neg (by simp only [Bool.and_eq_true,decide_eq_true_eq];omega)];done)
   ·refine .T (.z (zfa eR) (.T (.y hs (zld aj) (.T (.z (zfa fD) (.T (.y hs (zld aj) (.T (.z fW (.z zpF (.z zm (.jK (t':=29) rfl (fun KG=>?_) (fun KG=>?_)))))))))))))
    ·refine .Fs 4 24 false (.z zpT (.z zm (.Fs 4 30 false (.zn zpT (.cT (.af (.zn zg (.ret (rT (Fin.aW CR rfl ?_))))))))))
     (try simp only [je] at*)
     (try simp only [hZ] at*)
     refine ⟨congrArg I ?_,hs.out⟩;unfold Lim.ok;first
      |(rw [if_pos (by simp only [Bool.and_eq_true,decide_eq_true_eq];omega)];done)
      |(rw [if_neg (by simp only [Bool.and_eq_true,decide_eq_true_eq];omega)];done)
    ·refine .T (.z (zfa iM) (.T (.y hs (zld aj) (.T (.o (.call call212 rfl (eS hs) ?_))))));rintro _ w ⟨rfl,hs⟩;refine .T (.z fF (.z zpF (.z zm (.bif (t':=35) rfl (fun yQ=>?_) (fun yQ=>?_)))))
     ·refine .Fs 4 30 false (.zn zpT (.cT (.af (.zn zg (.ret (rT (Fin.aW CR rfl ?_)))))))
      (try simp only [je] at*)
      (try simp only [hZ] at*)
      refine ⟨congrArg I ?_,hs.out⟩;unfold Lim.ok;first
       |(rw [if_pos (by simp only [Bool.and_eq_true,decide_eq_true_eq];omega)];done)
       |(rw [if_neg (by simp only [Bool.and_eq_true,decide_eq_true_eq];omega)];done)
     ·refine .T (.z (zfa qZ) (.T (.y hs (zld aj) (.T (.o (.call call212 rfl (eS hs) ?_))))));rintro _ w ⟨rfl,hs⟩;refine .T (.z fF (.zn zpF (.cond rfl (fun uO=>?_) (fun uO=>?_))))
      ·refine .af (.zn zg (.ret (rT (Fin.aW CR rfl ?_))))
       (try simp only [je] at*)
       (try simp only [hZ] at*)
       refine ⟨congrArg I ?_,hs.out⟩;unfold Lim.ok;first
        |(rw [if_pos (by simp only [Bool.and_eq_true,decide_eq_true_eq];omega)];done)
        |(rw [if_neg (by simp only [Bool.and_eq_true,decide_eq_true_eq];omega)];done)
      ·refine .skip (nT (.af (.zn zg (.ret (Fin.aW CR rfl ?_)))))
       (try simp only [je] at*)
       (try simp only [hZ] at*)
       refine ⟨congrArg I ?_,hs.out⟩;unfold Lim.ok;first
        |(rw [if_pos (by simp only [Bool.and_eq_true,decide_eq_true_eq];omega)];done)
        |(rw [if_neg (by simp only [Bool.and_eq_true,decide_eq_true_eq];omega)];done)
theorem wF{w:World}{v:Value}{s:dL}(hs:St H w σ)(hr:RSy H v s):aaq 134 [v] w fun v w'=>v=I s.check∧St H w' σ:=by
 obtain ⟨u,rfl,hr⟩:=hr;obtain ⟨a,c,rfl⟩:=RL.shape hr;have hlen:=(RS.len (RS.V5 hr (Nat.le_refl _) (w8:=s.dU.length))).2.2;refine Cl.o func134 ntmps134 ag1 ?_;refine .af (.bx hs fun b1 w hs=>?_);refine .zn zg (.seq (.af (.z (zfa bS) (.y hs (zld aj) (.o (.call call212 rfl (eS hs) ?_))))));rintro _ w ⟨rfl,hs⟩;refine .zn fF (.cond rfl (fun EP=>?_) (fun EP=>?_))
 ·exact .af (.zn zg (.ret (rT (Fin.aW results134 rfl ⟨congrArg I (by unfold dL.check;rw [if_pos (by simp at EP;omega)]),hs.out⟩))))
 ·refine .skip (nT (.seq (.af (.z (zfa cN) (.y hs (zld lg) (.z (bT bK) (.zn nE (.bQ rfl (fun kD=>?_) (fun kD=>?_)))))))))
  ·exact .af (.zn zg (.ret (rT (Fin.aW results134 rfl ⟨congrArg I (by unfold dL.check;rw [if_neg (by simpa using EP),if_pos ak]),hs.out⟩))))
  ·refine .skip (nT (.seq (.af (.z (zfa cN) (.y hs (zld lg) (.z (bT bK) (.zn zm (.for (N:=s.dU.length) (J:=fun k fr w=>fr=[(14,.slice a s.dU.length c),(1,Pt b1)]∧(∀j<k,∀l,s.dU[j]? =some l→l.ok s.many=true)∧St H w (.blk b1 [I s.many,.slice a s.dU.length c]::σ)) ak ?_ ?_ ?_))))))))
   ·exact .mk ⟨rfl,fun j hj=>by omega,hs⟩
   ·rintro k fr w hk ⟨rfl,ew,hs⟩;obtain ⟨x,hx⟩:=nth (l:=s.dU) hk;refine .block (.af (.ixX (enc:=Lim.c) hs hr rfl rfl bK eL hx rfl ?_));intro vB o18 oQ;refine .q hs (bj (vs:=x.c) rfl Y5 eL oQ) (.o (.alloc hs zy rfl fun b4 w hs=>?_));refine .o (.aL (vs:=x.c) hs rfl rfl eL fun w hs=>?_);refine .nil (.af (.z (zfa bS) (.y hs (zld aj) (.q hs (gY (vs:=x.c) rfl Y5 eL) (.o (.call call213 rfl (po hs) ?_))))));rintro _ w ⟨rfl,hs⟩;have QF:0≤s.many∧s.many≤64:=by simpa using EP
    rw [show (decide (0≤s.many∧s.many≤64)&&x.ok s.many)=x.ok s.many by rw [decide_eq_true QF];rfl];refine .zn gv (.gN rfl (fun uQ=>?_) (fun uQ=>?_))
    ·refine .af (.zn zg (.ret (rB (rT (rB (rT (Fin.aW results134 rfl ?_)))))));exact ⟨congrArg I (by
      have CB:x.ok s.many=false:=by cases e:x.ok s.many with|false=>rfl|true=>rw [e] at uQ;simp at uQ
      unfold dL.check;rw [if_neg (by simpa using EP),if_neg ak,if_pos (List.any_eq_true.2 ⟨x,List.mem_of_getElem? hx,by rw [CB];rfl⟩)]),hs.out⟩
    ·exact .skip (nB (nT (.mk ⟨rfl,eU ew hx (by cases e:x.ok s.many with|true=>rfl|false=>rw [e] at uQ;simp at uQ),hs.tail⟩)))
   ·rintro fr w ⟨rfl,ew,hs⟩;refine nT (.af (.zn zg (.ret (Fin.aW results134 rfl ?_))));exact ⟨congrArg I (by
     have rX:(s.dU.any fun l=> !l.ok s.many)=false:=by
      simp only [List.any_eq_false,Bool.not_eq_true',Bool.not_eq_false];intro l hl;obtain ⟨j,hj⟩:=List.getElem?_of_mem hl;exact ew j (List.getElem?_eq_some_iff.1 hj).1 l hj
     unfold dL.check;rw [if_neg (by simpa using EP),if_neg ak,rX];rfl),hs.out⟩
theorem ot{w:World}{va vb:Value}{A B:List Int}(hs:St H w σ)(hA:RI H va A)(hB:RI H vb B):
  aaq 264 [va,vb] w fun v w'=>v= .bool (decide (A=B))∧St H w' σ:=by
 obtain ⟨aA,cA,rfl⟩:=RI.shape hA;obtain ⟨aB,cB,rfl⟩:=RI.shape hB;have hlA:=(RI.len hA).2.2;have hlB:=(RI.len hB).2.2;refine Cl.o func264 ntmps264 ag2 ?_;refine .af (.zn zg (.seq (.af (.z zm (.z (bT ai) (.z zm (.z (bT ai) (.zn gv (.gN rfl (fun wQ=>?_) (fun wQ=>?_))))))))))
 ·exact .af (.zn zg (.ret (rT (Fin.aW results264 rfl ⟨by rw [decide_eq_false (by intro h;subst h;exact wQ rfl)],hs⟩))))
 ·refine .skip (nT (.seq (.af (.z zm (.z (bT ai) (.zn zm (.for (N:=A.length) (J:=fun k fr w=>fr=[(0,.slice aA A.length cA),(1,.slice aB B.length cB)]∧(∀j<k,A[j]? =B[j]?)∧St H w σ) ak ?_ ?_ ?_)))))))
  ·exact .mk ⟨rfl,fun j h=>by omega,hs⟩
  ·rintro k fr w hk ⟨rfl,h0,hs⟩;obtain ⟨xA,Wx⟩:=nth hk;obtain ⟨xB,Vg⟩:=nth (l:=B) (k:=k) ak;refine .block (.af (.z zm (.zn zg (.seq (.draw mix rfl hs fun w hs=>?_)))));refine .zw 0 rfl zm ?_;refine .z 1 rfl zm ?_;refine .ixX (enc:=fun x=>[I x]) (i:=2) hs rfl aF .none hA rfl rfl ai an Wx rfl ?_;intro vB o18 oQ;replace oQ:=bI.one oQ;refine .r (i:=3) hs rfl aF .none (aR rfl aj oQ) ?_;refine .zw 4 rfl zm ?_;refine .z 5 rfl zm ?_;refine .ixX (enc:=fun x=>[I x]) (i:=6) hs rfl aF .none hB rfl rfl ai an Vg rfl ?_;intro Iw o22 ny;replace ny:=bI.one ny;refine .r (i:=7) hs rfl aF .none (aR rfl aj ny) ?_;refine .zw 8 rfl gv ?_;refine .D hs ?_;refine (.gN rfl (fun uQ=>?_) (fun uQ=>?_))
   ·exact .af (.zn zg (.ret (rB (rT (rB (rT (Fin.aW results264 rfl ⟨by rw [decide_eq_false (by intro h;subst h;rw [Wx] at Vg;cases Vg;exact uQ rfl)],hs⟩)))))))
   ·refine .skip (nB (nT ?_));exact .mk ⟨rfl,fun j hj=>by
     by_cases e:j=k
     ·subst e;rw [Wx,Vg,uQ]
     ·exact h0 j ak,hs⟩
  ·rintro fr w ⟨rfl,h0,hs⟩;refine nT (.af (.zn zg (.ret (Fin.aW results264 rfl ?_))));exact ⟨by rw [decide_eq_true (List.ext_getElem? fun j=>by
    by_cases e:j<A.length
    ·exact h0 j e
    ·rw [List.getElem?_eq_none ak,List.getElem?_eq_none ak])],hs⟩
theorem mg{w:World}{v:Value}(hs:St H w (en::σ))(ho:bE 1 v (Is l) en)(hl:l.length≤1000000):
  aaq 120 [v] w fun _ w'=>∃jn,bE 1 v (Is l.reverse) jn∧St H w' (jn::σ):=by
 rcases ho with ⟨a,rfl,h2,rfl⟩|⟨b,len,cap,sp,rfl,rfl,h2,h3,h4⟩
 ·obtain rfl:l=[]:=by
   have:=congrArg List.length h2;exact List.length_eq_zero_iff.1 (by simpa using this)
  have hs:=hs.tail;refine Cl.o func120 ntmps120 ag1 ?_;refine .af (.z zm (.z (bT ai) (.z jj (.z zg (.zn zg (.block (.loop (fun _:Unit=>⟨28,[],[(2,I 0),(3,I (-1))]⟩) (fun _ w=>St H w σ) (fun _=>0) () bg hs ?_)))))));rintro _ w hs;refine .seq (.af (.z zm (.z zm (.zn fT (.bQ rfl (fun sr=>?_) (fun sr=>?_))))))
  ·omega
  ·exact .exit (xT (xT (xB (Fin.zG results120 ⟨.nul,.nil 1 a,hs.nul⟩))))
 obtain rfl:len=l.length:=by simpa using h2.symm
 refine Cl.o func120 ntmps120 ag1 ?_;refine .af (.z zm (.z (bT ai) (.z jj (.z zg (.zn zg (.block (.loop (fun p:Nat×List Int=>⟨28,[],[(2,I p.1),(3,I ((l.length:Int) - 1 - p.1)),(0,.slice (some ⟨b,0,none⟩) l.length cap)]⟩) (fun p w=>(2*p.1≤l.length+1∧pT l p.2 p.1)∧St H w (.blk b (Is p.2++sp)::σ)) (fun p=>l.length - p.1) (0,l) (.cons rfl (.dw rfl aU (.cons rfl (.nil rfl rfl)))) ⟨⟨aU,.start l⟩,hs⟩ ?_)))))));rintro ⟨i,L⟩ w ⟨⟨h5,h6⟩,hs⟩;dsimp only at h5 h6 hs ⊢;have hL:=h6.1;refine .seq (.af (.z zm (.z zm (.zn fT (.bQ rfl (fun sr=>?_) (fun sr=>?_))))))
 ·refine .skip (nT (.seq (.block (.draw mix rfl hs fun w hs=>?_))));refine .zw 0 rfl zm ?_;refine .z 1 rfl zm ?_;refine .z 2 rfl zm ?_;refine .z 3 rfl zm ?_;refine .z 4 rfl zm ?_;refine .z 5 rfl zm ?_;refine .zw 6 rfl (l6 (k:=l.length - 1 - i) rfl rfl ai an ak ak) (.load (i:=7) hs rfl aF .none rfl aj ?_ (hv:=gV ak sp));refine .zw 8 rfl zm ?_;refine .z 9 rfl zm ?_;first|(refine .ixv 10 rfl hs ai an ?_;intro YE o24 uQ)|refine .z 10 rfl (zix ai an) ?_
  refine .load (i:=11) hs rfl aF .none rfl aj ?_ (hv:=gV ak sp);first|(refine .ixv 12 rfl hs ai an ?_;intro YD o26 jo)|refine .z 12 rfl (zix ai an) ?_
  refine .E 13 hs ?_;refine .store hs rfl rfl an ?_ cg (by simp;omega) (nD ak sp _);intro w hs;refine .go (.zw 14 rfl (l6 (k:=l.length - 1 - i) rfl rfl ai an ak ak) (.E 15 hs ?_));refine .store hs rfl rfl an ?_ cg (by simp;omega) (nD (by simp;omega) sp _);intro w hs;exact .go (.D hs (nB (nT (.region (.z zm (.z cC (.z zm (.z jj (.z zg (.zn zg (nT ⟨(i+1,_),.cons rfl (.dw rfl (by push_cast;omega) (.cons rfl (.nil rfl rfl))),⟨⟨by dsimp only;omega,h6.step ak⟩,hs⟩,by dsimp only;omega⟩)))))))))))
 ·refine .exit (xT (xT (xB ?_)));rw [h6.done ak] at hs;exact Fin.zG results120 ⟨_,.inr ⟨b,l.length,cap,sp,rfl,rfl,aU,by rw [←h3];simp,h4⟩,hs⟩
inductive Sg(s:dL)(xs:List Int):Int→Prop
 |bad (h:s.check≠0) (h1:xs=[]):Sg s xs s.check
 |sound (h:s.Ok) (h1:s.Sound) (h2:xs=[]):Sg s xs 0
 |chain {st:BS} {x:Arc} {z k:Nat} (h:s.Ok) (h1:¬s.Sound) (h2:UX s.n s.de st (some x)) (h3:z=rA st.by_ x.t (s.n+1)) (h4:1≤k) (h5:k≤s.n) (h6:rA st.by_ z k=z) (h7:xs=(BK st.by_ z k).reverse):Sg s xs 0
theorem Sg.Jk{s:dL}(h:Sg s xs 0):xs=[]↔s.Sound:=by
 generalize hz:(0:Int)=y at h
 cases h with
 |bad h=>exact (h hz.symm).elim
 |sound _ h1 h2=>exact ⟨fun _=>h1,fun _=>h2⟩
 | @chain st x z k _ h1 _ _ h4 _ _ h7=>exact ⟨fun h=>by
   have:=congrArg List.length (h7.symm.trans h);rw [List.length_reverse,pz] at this;simp at this;omega,fun h=>(h1 h).elim⟩
set_option maxHeartbeats 4000000 in
theorem xf{w:World}{v:Value}{s:dL}(hs:St H w σ)(hr:RSy H v s):
  aaq 322 [v] w fun u w'=>∃H1 vx xs e,HLe H H1∧u= .tuple #[vx,I e]∧RI H1 vx xs∧Sg s xs e∧St H1 w' σ:=by
 obtain ⟨u,rfl,hr⟩:=hr;obtain ⟨al,cl,rfl⟩:=RL.shape hr;refine Cl.o func322 ntmps322 ag1 ?_;refine .af (.bx hs fun b1 w hs=>?_);refine .z zg (.zn zg (.seq (.af (.y hs (zls [_,_] ea bR) (.o (.call call189 rfl (oD (s:=s) hs ⟨_,rfl,hr⟩) ?_))))));rintro _ w ⟨rfl,hs⟩;refine .zn zg (.af (.z zm (.zn gv (.gN rfl (fun fq=>?_) (fun fq=>?_)))))
 ·exact .af (.z zm (.z zg (.zn zg (.ret (rT (Fin.mh results322 rfl rfl ⟨H,_,[],_,HLe.refl H,rfl,RS.nil H 1 none 0,.bad fq rfl,hs.out⟩))))))
 ·refine .skip (nT (.seq (.draw mix rfl hs fun w hs=>?_)));refine .zw 0 rfl (zfa bS) ?_;refine .y 1 rfl hs aj ?_;refine .ys 2 rfl hs [_,_] ea bR ?_;refine .E 3 hs ?_;have bw:s.Ok:=s.jz.1 (by simpa using fq);have sZ:=bw.de;have hn:s.n=s.many.toNat+1:=rfl;have HR:=bw.m0;have LK:=bw.m1;refine .call call192 rfl (kZ (s:=s) hs bw ⟨_,rfl,hr⟩) ?_;rintro _ w ⟨H1,jr,az,rfl,sq,hs⟩;refine .go (.E 4 hs ?_);have ON:=mz (N:=s.many.toNat) hs ak (by rw [←hn];exact sZ) sq call238;rw [Int.toNat_of_nonneg HR] at ON;refine .call call191 rfl ON ?_;rintro _ w ⟨H2,bc,bb,st,ov,vo,aN,rfl,IU,RW,hs⟩;obtain ⟨a',rfl,O6⟩:=IU.ptr;refine .go (.zw 5 rfl zm ?_);refine .z 6 rfl zex ?_;refine .z 7 rfl zex ?_;refine .z 8 rfl zex ?_;refine .z 9 rfl zg ?_;refine .z 10 rfl zg ?_;refine .z 11 rfl zg ?_;refine .D hs ?_;refine .seq (.af (.z zm (.q hs (AL rfl rfl runUnderlying332) (.nil (.cond rfl (fun jo=>?_) (fun jo=>?_))))))
  ·refine .af (.z zg (.zn zg (.ret (rT (Fin.mh results322 rfl rfl ?_)))));exact ⟨H2,_,[],0,az.trans aN,rfl,RS.nil H2 1 none 0,.sound bw (by
    obtain ⟨r,LP,BO⟩:=RW
    cases ov with
    |none=>exact ⟨_,(LP.sol (by rw [←hn];exact sZ) ak).1⟩
    |some x=>rw [O6] at jo;cases jo) rfl,hs.out⟩
  ·refine .skip (nT (.af (.z zm ?_)));obtain ⟨x,rfl⟩:=OvR.yes O6 jo;obtain ⟨b3,e3,sY⟩:=IU;cases e3
   have Tl:cellAt H2 b3 1=some (I x.t):=sY.at 1;have Vt:s.many+2=((s.many.toNat+2:Nat):Int):=by omega
   have hns:¬s.Sound:=by
    obtain ⟨r,LP,BO⟩:=RW;exact LP.none (by rw [←hn];exact sZ) ak (by have:=BO aU;omega)
   obtain ⟨IV,WZ,J7⟩:st.by_.length=s.many.toNat+1∧(∀v<s.many.toNat+1,(ga st.by_ v).f<s.many.toNat+1)∧x.t<s.many.toNat+1:=by
    obtain ⟨r,LP,BO⟩:=RW;exact ⟨LP.lb,fun v hv=>(LP.rg v hv).1,(sZ.2 x (LP.ovm x rfl)).2.1⟩
   have GB:=fun k=>Bx WZ J7 k
   refine .z znc (.z (zfa cZ) (.q hs (aR rfl aj Tl) (.zn zg (.seq (.af (.z (zfa bS) (.y hs (zld aj) (.z cC ?_))))))));rw [Vt];refine .zn zm (.for (N:=s.many.toNat+2) (J:=fun k fr w=>fr=[(8,I (rA st.by_ x.t k)),(6,.slice (some ⟨bb,0,none⟩) (s.many.toNat+1) (s.many.toNat+1))]∧St H2 w (.blk bc (Is st.cost):: .blk bb (jL st.by_):: .blk b1 [I s.many,.slice al s.dU.length cl]::σ)) ak ?_ ?_ ?_)
   ·exact .mk ⟨rfl,hs⟩
   ·rintro k fr w hk ⟨rfl,hs⟩;refine .block (.region (.z zm (.z zm (.q hs (AJ (k:=rA st.by_ x.t k) rfl rfl aI aQ rfl (GB k)) (.z (zfa cM) (.q hs (eM rfl aj (.there .here) (tN (j:=0) (by rw [IV];exact GB k) cR)) ?_))))));exact .zn zg (nB (nT (.mk ⟨rfl,hs.out⟩)))
   ·rintro fr w ⟨rfl,hs⟩;obtain ⟨pd,Ts,OM,Zq⟩:=HH WZ J7 (m:=s.many.toNat+2) ak;have S9:=GB (s.many.toNat+2);generalize hz:rA st.by_ x.t (s.many.toNat+2)=z at Zq S9 ⊢;have OC:=fun k=>Bx WZ S9 k
    refine nT (.af (.zn zg (.seq (.af (.z zm (.zn zg (.block ?_)))))));refine .loop (fun p:Nat×Value=>⟨62,[],[(9,p.2),(8,I (rA st.by_ z p.1)),(10,I z),(6,.slice (some ⟨bb,0,none⟩) (s.many.toNat+1) (s.many.toNat+1))]⟩)
     (fun p w=>p.1<pd∧∃en,bE 1 p.2 (Is (BK st.by_ z p.1)) en∧St H2 w (en:: .blk bc (Is st.cost):: .blk bb (jL st.by_):: .blk b1 [I s.many,.slice al s.dU.length cl]::σ))
     (fun p=>pd - p.1) (0,.slice none 0 0) bg
     ⟨ak,_,.nil 1 none,hs.nul⟩ ?_
    rintro ⟨k,v9⟩ w ⟨hk,en,hO,hs⟩;dsimp only at hk hO ⊢;refine .block (.af (.z zm (.z zm (.z zm (.q hs (AJ (k:=rA st.by_ z k) rfl rfl aI aQ rfl (OC k)) (.z (zfa dD) (.q hs (eM rfl aj (.there (.there .here)) (tN (j:=3) (by rw [IV];exact OC k) cR)) ?_)))))));refine .o (.buildSlice (cells:=[_]) hs bO rfl rfl fun Yz w hs=>?_);refine .o (.append (ys:=[I (ga st.by_ (rA st.by_ z k)).l]) hs bJ rfl rfl hO (.own .here rfl rfl) (by simp [Value.oneCell']) (fun l' h=>by simp [BK] at h;omega) ?_);intro v50 en50 w gM hs;refine .zn zg (.af (.z zm (.z zm (.q hs (AJ (k:=rA st.by_ z k) rfl rfl aI aQ rfl (OC k)) (.z (zfa cM) (.q hs (eM rfl aj (by repeat (first|exact .here|refine .there ?_)) (tN (j:=0) (by rw [IV];exact OC k) cR)) ?_))))));refine .zn zg (.af (.z zm (.z zm (.zn fW (.bQ rfl (fun s6=>?_) (fun s6=>?_))))))
    ·refine .exit (xN (xT (xB (nT (.af (.z zm ?_))))));have lq:bE 1 v50 (Is (BK st.by_ z (k+1))) en50:=by rw [AP];simpa [Is] using gM
     have hkz:rA st.by_ z (k+1)=z:=by
      have h3:((ga st.by_ (rA st.by_ z k)).f:Int)=z:=by simpa using s6
      show (ga st.by_ (rA st.by_ z k)).f=z;omega
     refine .o (.call call120 rfl (mg hs lq (by rw [pz];omega)) ?_);rintro _ w ⟨jn,tY,hs⟩;refine .nil (.af (.z zm (.z zg (.zn zg (.ret (Fin.mh results322 rfl rfl ?_))))));obtain ⟨H3,bA,hRI,hs⟩:=bE.bX tY (by rw [List.length_reverse,pz];omega) hs .here;exact ⟨H3,_,_,0,az.trans (aN.trans bA),rfl,hRI,.chain bw hns (by rw [hn];exact RW) (by rw [hn];exact hz.symm) ak ak hkz rfl,hs.sb⟩
    ·refine .skip (nB (nT ?_));exact ⟨(k+1,v50),bg,⟨by
      dsimp only;have:k+1≠pd:=fun e=>s6 (congrArg (Nat.cast:Nat→Int) (show rA st.by_ z (k+1)=z by rw [e];exact Zq))
      omega,en50,by rw [AP];simpa [Is] using gM,hs.sb⟩,by dsimp only;omega⟩
theorem ou{w:World}{v:Value}{s:dL}(hs:St H w σ)(hr:RSy H v s):
  aaq 76 [v] w fun u w'=>∃H1 vt e,HLe H H1∧u= .tuple #[vt,I e]∧((s.check≠0∧e=s.check∧vt= .slice none 0 0)∨(s.Ok∧¬s.Sound∧e=23∧vt= .slice none 0 0)∨(s.Ok∧s.Sound∧e=0∧∃rs,RT H1 vt rs∧Sq s.n rs∧ma s.n s.de (gt rs)))∧St H1 w' σ:=by
 obtain ⟨ul,rfl,hl⟩:=hr;obtain ⟨al,cl,rfl⟩:=RL.shape hl;refine Cl.o func76 ntmps76 ag1 ?_;refine .af (.bx hs fun b1 w hs=>?_);refine .z zg (.zn zg (.af (.y hs (zls [_,_] ea bR) (.o (.call call134 rfl (wF (s:=s) hs ⟨_,rfl,hl⟩) ?_)))));rintro _ w ⟨rfl,hs⟩;refine .zn zg (.seq (.af (.z zm (.zn gv (.gN rfl (fun sr=>?_) (fun sr=>?_))))))
 ·exact .af (.z zm (.z zg (.zn zg (.ret (rT (Fin.mh results76 rfl rfl ⟨H,_,_,HLe.refl H,rfl,.inl ⟨sr,rfl,rfl⟩,hs.out⟩))))))
 ·refine .skip (nT (.af (.y hs (zls [_,_] ea bR) ?_)));have bw:s.Ok:=s.jz.1 (by simpa using sr);have LK:=bw.m1;refine .o (.call call135 rfl (x9 (s:=s) hs ⟨_,rfl,hl⟩ bw) ?_);rintro v12 w ⟨H1,rs,az,KP,R7,Uj,hs⟩;obtain ⟨at',ct,rfl⟩:=KP.shape;refine .zn zg (.seq (.af (.z zm (.o (.call call136 rfl (wE hs KP R7 (by simp only [dL.n];omega)) ?_)))));rintro _ w ⟨b,rfl,hb,hs⟩;have R5:=hb.trans (Hn bw Uj).symm;refine .zn fF (.cond rfl (fun pA=>?_) (fun pA=>?_))
  ·exact .af (.z zg (.zn zg (.ret (rT (Fin.mh results76 rfl rfl ⟨H1,_,_,az,rfl,.inr (.inl ⟨bw,fun h=>by simp [R5.2 h] at pA,rfl,rfl⟩),hs.out⟩)))))
  ·exact .skip (nT (.af (.z zm (.z zg (.zn zg (.ret (Fin.mh results76 rfl rfl ⟨H1,_,_,az,rfl,.inr (.inr ⟨bw,R5.1 (by simpa using pA),rfl,rs,KP,R7,Uj⟩),hs.out⟩)))))))
theorem Cp{w:World}{v:Value}{ls:List Int}{q:Int→Prop}(hs:St H w σ)(hr:RI H v ls)
  (hc:∀args w,(callFunc g args).run Tryz.prog w= .ok (.enter g args) w) (hp:∀w l,St H w σ→aaq g ([I l]++cap) w fun u w'=>∃b,u= .bool b∧(b=true↔q l)∧St H w' σ):
  aaq 140 [v,.func (.func g) #[] cap.toArray] w fun u w'=>∃i,u=I i∧(0≤i↔∃p∈ls,q p)∧St H w' σ:=by
 obtain ⟨a,c,rfl⟩:=RI.shape hr;have hl:=(RI.len hr).2.2;refine Cl.o func140 ntmps140 ag2 ?_;refine .af (.zn zg (.seq (.af (.z zm (.z (bT ai) (.zn zm (.for (N:=ls.length) (J:=fun k fr w=>fr=[(1,.func (.func g) #[] cap.toArray),(0,.slice a ls.length c)]∧St H w σ∧∀j<k,∀l,ls[j]? =some l→¬q l) ak ?_ ?_ ?_)))))))
 ·exact .mk ⟨rfl,hs,fun j hj=>by omega⟩
 ·rintro k fr w hk ⟨rfl,hs,ew⟩;obtain ⟨l,hl⟩:=nth hk;refine .block (.af (.z zm (.zn zg (.af (.z zm (.z zm (.z zm ?_)))))));first|(refine .ixv hs ai an ?_;intro tZ o14 fq)|refine .z (zix ai an) ?_
  refine .y hs (zld aj) (.o (.jN (first:=[]) rfl rfl hc (hp _ _ hs) ?_));rintro _ w ⟨vC,rfl,mJ,hs⟩;refine .nil (.cond rfl (fun dO=>?_) (fun dO=>?_))
  ·exact .af (.z zm (.zn zg (.ret (rB (rT (rB (rT (Fin.aW results140 rfl ⟨_,rfl,⟨fun _=>⟨l,List.mem_of_getElem? hl,mJ.1 dO⟩,fun _=>by omega⟩,hs⟩))))))))
  ·exact .skip (nB (nT (.mk ⟨rfl,hs,eU ew hl (fun h=>by rw [mJ.2 h] at dO;cases dO)⟩)))
 ·rintro fr w ⟨rfl,hs,ew⟩;refine nT (.af (.zn zg (.ret (Fin.aW results140 rfl ?_))));exact ⟨_,rfl,⟨fun h=>by omega,fun ⟨p,h1,h2⟩=>by
   obtain ⟨j,hj⟩:=List.getElem?_of_mem h1;exact (ew j (List.getElem?_eq_some_iff.1 hj).1 p hj h2).elim⟩,hs⟩
theorem xk{w:World}{v:Value}{ls:List Int}{q:Int→Prop}(hs:St H w σ)(hr:RI H v ls)
  (hc:∀args w,(callFunc g args).run Tryz.prog w= .ok (.enter g args) w) (hp:∀w l,St H w σ→aaq g ([I l]++cap) w fun u w'=>∃b,u= .bool b∧(b=true↔q l)∧St H w' σ):
  aaq 81 [v,.func (.func g) #[] cap.toArray] w fun u w'=>∃b,u= .bool b∧(b=true↔∃p∈ls,q p)∧St H w' σ:=by
 refine Cl.o func81 ntmps81 ag2 ?_;refine .af (.zn zg (.af (.z zm (.z zm (.o (.call call140 rfl (Cp hs hr hc hp) ?_))))));rintro _ w ⟨i,rfl,hi,hs⟩;exact .z zC (.zn zg (.ret (Fin.aW results81 rfl ⟨_,rfl,by simp only [decide_eq_true_eq];exact hi,hs⟩)))
end Go.Proofs.YtfnfiekkdpphjaaGreat
namespace Go.Proofs
open Go.Shelf
def Tryz.Fq:Go.Shelf.Ren:=⟨fun|189=>126|125=>87|257=>197|128=>152|129=>153|294=>243|295=>244|296=>245|297=>246|298=>247|299=>248|216=>249|300=>250|301=>251|328=>284|329=>217|330=>218|331=>285|332=>286|215=>154|343=>311|n=>n,fun|28=>22|3=>3|46=>205|0=>0|51=>299|53=>301|4=>4|183=>293|182=>292|131=>209|5=>5|9=>9|218=>350|222=>354|228=>405|229=>324|n=>n,fun|n=>n⟩
theorem Tryz.JX:Go.Proofs.Lays.n189 Tryz.prog Tryz.Fq:={
 mixed:=by kernel_rfl
 f125:=Tryz.func87.trans (congrArg some (by kernel_rfl))
 f128:=Tryz.func152.trans (congrArg some (by kernel_rfl))
 f129:=Tryz.func153.trans (congrArg some (by kernel_rfl))
 f189:=Tryz.func126.trans (congrArg some (by kernel_rfl))
 f215:=Tryz.func154.trans (congrArg some (by kernel_rfl))
 f216:=Tryz.func249.trans (congrArg some (by kernel_rfl))
 f257:=Tryz.func197.trans (congrArg some (by kernel_rfl))
 f294:=Tryz.func243.trans (congrArg some (by kernel_rfl))
 f295:=Tryz.func244.trans (congrArg some (by kernel_rfl))
 f296:=Tryz.func245.trans (congrArg some (by kernel_rfl))
 f297:=Tryz.func246.trans (congrArg some (by kernel_rfl))
 f298:=Tryz.func247.trans (congrArg some (by kernel_rfl))
 f299:=Tryz.func248.trans (congrArg some (by kernel_rfl))
 f300:=Tryz.func250.trans (congrArg some (by kernel_rfl))
 f301:=Tryz.func251.trans (congrArg some (by kernel_rfl))
 f328:=Tryz.func284.trans (congrArg some (by kernel_rfl))
 f329:=Tryz.func217.trans (congrArg some (by kernel_rfl))
 f330:=Tryz.func218.trans (congrArg some (by kernel_rfl))
 f331:=Tryz.func285.trans (congrArg some (by kernel_rfl))
 f332:=Tryz.func286.trans (congrArg some (by kernel_rfl))
 f343:=Tryz.func311.trans (congrArg some (by kernel_rfl))
 t0:=Tryz.underlying0
 a0:=Tryz.isAgg0
 z0:=Tryz.sizeOf0
 v0:=Tryz.zeroValue0
 t3:=Tryz.underlying3
 a3:=Tryz.isAgg3
 z3:=Tryz.sizeOf3
 v3:=Tryz.zeroValue3
 t4:=Tryz.underlying4
 a4:=Tryz.isAgg4
 z4:=Tryz.sizeOf4
 v4:=Tryz.zeroValue4
 t5:=Tryz.underlying5
 a5:=Tryz.isAgg5
 z5:=Tryz.sizeOf5
 v5:=Tryz.zeroValue5
 t9:=Tryz.underlying9
 a9:=Tryz.isAgg9
 z9:=Tryz.sizeOf9
 v9:=Tryz.zeroValue9
 t28:=Tryz.underlying22
 a28:=Tryz.isAgg22
 z28:=Tryz.sizeOf22
 v28:=Tryz.zeroValue22
 t46:=Tryz.underlying205
 a46:=Tryz.isAgg205
 z46:=Tryz.sizeOf205
 v46:=Tryz.zeroValue205
 t51:=Tryz.underlying299
 a51:=Tryz.isAgg299
 z51:=Tryz.sizeOf299
 v51:=Tryz.zeroValue299
 t53:=Tryz.underlying301
 a53:=Tryz.isAgg301
 z53:=Tryz.sizeOf301
 v53:=Tryz.zeroValue301
 t131:=Tryz.underlying209
 a131:=Tryz.isAgg209
 z131:=Tryz.sizeOf209
 v131:=Tryz.zeroValue209
 t182:=Tryz.underlying292
 a182:=Tryz.isAgg292
 z182:=Tryz.sizeOf292
 v182:=Tryz.zeroValue292
 t183:=Tryz.underlying293
 a183:=Tryz.isAgg293
 z183:=Tryz.sizeOf293
 v183:=Tryz.zeroValue293
 t218:=Tryz.underlying350
 a218:=Tryz.isAgg350
 z218:=Tryz.sizeOf350
 v218:=Tryz.zeroValue350
 t222:=Tryz.underlying354
 a222:=Tryz.isAgg354
 z222:=Tryz.sizeOf354
 v222:=Tryz.zeroValue354
 t228:=Tryz.underlying405
 a228:=Tryz.isAgg405
 z228:=Tryz.sizeOf405
 v228:=Tryz.zeroValue405
 t229:=Tryz.underlying324
 a229:=Tryz.isAgg324
 z229:=Tryz.sizeOf324
 v229:=Tryz.zeroValue324}
def Tryz.DC:Go.Shelf.Ren:=⟨fun|20=>127|n=>n,fun|22=>22|3=>3|4=>4|0=>0|n=>n,fun|n=>n⟩
theorem Tryz.Gw:Go.Proofs.Lays2.n20 Tryz.prog Tryz.DC:={
 mixed:=by kernel_rfl
 f20:=Tryz.func127.trans (congrArg some (by kernel_rfl))
 t0:=Tryz.underlying0
 a0:=Tryz.isAgg0
 z0:=Tryz.sizeOf0
 v0:=Tryz.zeroValue0
 t3:=Tryz.underlying3
 a3:=Tryz.isAgg3
 z3:=Tryz.sizeOf3
 v3:=Tryz.zeroValue3
 t4:=Tryz.underlying4
 a4:=Tryz.isAgg4
 z4:=Tryz.sizeOf4
 v4:=Tryz.zeroValue4
 t22:=Tryz.underlying22
 a22:=Tryz.isAgg22
 z22:=Tryz.sizeOf22
 v22:=Tryz.zeroValue22
 i3:=by kernel_rfl}
end Go.Proofs
namespace Go.Proofs.YtfnfiekkdpphjaaGreat
open Go.Sort Go.RowKit
theorem Mb(blk off cap:Nat)(zs:List Int)(w:World)(hH:Holds (Value.int .i64) w blk off zs.toArray)(hblk:blk<w.heap.size)(rQ:zs.length<4611686018427387904):
  Calls Tryz.prog 126 #[.slice (some ⟨blk,off,none⟩) zs.length cap] w fun e w'=>e= .returned (.tuple #[])∧∃n os,w'=grow (putRow (Value.int .i64) (Sort.ahead w n) blk off (zs.mergeSort fun x y=>decide (x≤y)).toArray) os:=
 Any.slices_Sort_int Tryz.JX blk off cap zs w hH hblk rQ
theorem Bg(p:Option Addr)(cap:Nat)(w:World):Calls Tryz.prog 126 #[.slice p 0 cap] w fun e w'=>e= .returned (.tuple #[])∧w'=w:=
 Any.slices_Sort_int_none Tryz.JX p cap w
theorem E8(blk off cap:Nat)(zs:List Int)(w:World)(hH:Holds (Value.int .i64) w blk off zs.toArray)(rQ:zs.length≤9223372036854775807)(mI:zs.length≤cap):
  Calls Tryz.prog 127 #[.slice (some ⟨blk,off,none⟩) zs.length cap] w fun e w'=>e= .returned (.slice (some ⟨blk,off,none⟩) (Lib.compact zs).length cap)∧∃q,w'=putRow (Value.int .i64) (Sort.ahead w q) blk off (Lib.compact zs++List.replicate (zs.length - (Lib.compact zs).length) 0).toArray:=
 Any.slices_Compact_int Tryz.Gw blk off cap zs w hH rQ mI
theorem wx(p:Option Addr)(cap:Nat)(w:World):Calls Tryz.prog 127 #[.slice p 0 cap] w fun e w'=>e= .returned (.slice p 0 cap)∧w'=w:=
 Any.slices_Compact_int_empty Tryz.Gw p cap w
end Go.Proofs.YtfnfiekkdpphjaaGreat
namespace Go.Proofs.YtfnfiekkdpphjaaGreat
open Go.MW Tryz
variable{H:bp}{σ:List Ent}{a0 a1 a2 m a most hi lo f e z1 z2 z3 known fl id number day:Int}{ls:List Lim}{g b k b1 bf bt bl cl i bm bc bn:Nat}{cap sp:List Value}{s:Spc}{xs lf ws l X Y pk days:List Int}{en:Ent}{ts:List TD}{vl vt vd vp vw v1 v2 vr vc d vs v5 v4 b' tap dn b2 c2 d2 ve:Value}{t:TD}{rows:List (List Int)}{fG:List F5}{fL:List F4}{th:Bool}
theorem xS{w:World}{cap:Nat}(hs:St H w (.blk b (Is xs++sp)::σ))(hl:xs.length≤17592186044416):
  aaq 126 [.slice (some ⟨b,0,none⟩) xs.length cap] w fun u w'=>u= .tuple #[]∧St H w' (.blk b (Is (xs.mergeSort fun x y=>decide (x≤y))++sp)::σ):=
 (Mb b 0 cap xs w hs.holds (hs.lt .here) ak).mono fun e w' ⟨he,m,os,hw⟩=>⟨_,he,rfl,by
  rw [hw];exact (hs.putRow (List.length_mergeSort _)).grow os⟩
theorem wz{w:World}{a:Option Addr}{cap:Nat}(hs:St H w σ):
  aaq 126 [.slice a 0 cap] w fun u w'=>u= .tuple #[]∧St H w' σ:=
 (Bg a cap w).mono fun e w' ⟨he,hw⟩=>⟨_,he,rfl,by rw [hw];exact hs⟩
theorem sD{w:World}{cap:Nat}(hs:St H w (.blk b (Is xs++sp)::σ))(hl:xs.length≤17592186044416)(mI:xs.length≤cap):
  aaq 127 [.slice (some ⟨b,0,none⟩) xs.length cap] w fun u w'=>u= .slice (some ⟨b,0,none⟩) (Go.Lib.compact xs).length cap∧St H w' (.blk b (Is (Go.Lib.compact xs)++(Is (List.replicate (xs.length - (Go.Lib.compact xs).length) 0)++sp))::σ):=
 (E8 b 0 cap xs w hs.holds ak mI).mono fun e w' ⟨he,m,hw⟩=>⟨_,he,rfl,by
  rw [hw];have h:=Go.Lib.compact_length_le xs;have:=hs.putRow (m:=m) (ys:=Go.Lib.compact xs++List.replicate (xs.length - (Go.Lib.compact xs).length) 0) (by simp;omega);have e2:Is (Go.Lib.compact xs++List.replicate (xs.length - (Go.Lib.compact xs).length) 0)=Is (Go.Lib.compact xs)++Is (List.replicate (xs.length - (Go.Lib.compact xs).length) 0):=List.map_append;rw [e2,List.append_assoc] at this;exact this⟩
theorem rq{w:World}{a:Option Addr}{cap:Nat}(hs:St H w σ):
  aaq 127 [.slice a 0 cap] w fun u w'=>u= .slice a 0 cap∧St H w' σ:=
 (wx a cap w).mono fun e w' ⟨he,hw⟩=>⟨_,he,rfl,by rw [hw];exact hs⟩
theorem oL{w:World}{v:Value}(q:Int→Prop)(hs:St H w σ)(hR:RI H v xs)(hc:∀args w,(callFunc g args).run Tryz.prog w= .ok (.enter g args) w)
  (hp:∀H' w σ (n:Int),n∈xs→HLe H H'→St H' w σ→aaq g ([I n]++cap) w fun u w'=>∃H1 b,HLe H' H1∧u= .bool b∧(b=true↔q n)∧St H1 w' σ):
  aaq 140 [v,.func (.func g) #[] cap.toArray] w fun u w'=>∃H1 i,HLe H H1∧u=I i∧(0≤i↔∃x∈xs,q x)∧St H1 w' σ:=by
 obtain ⟨a,c,rfl⟩:=RI.shape hR;have hl:=(RI.len hR).2.2;refine Cl.o func140 ntmps140 ag2 ?_;refine .af (.zn zg (.seq (.af (.z zm (.z (bT ai) (.zn zm (.for (N:=xs.length) (J:=fun k fr w=>fr=[(1,.func (.func g) #[] cap.toArray),(0,.slice a xs.length c)]∧∃H1,HLe H H1∧(∀j<k,∀y,xs[j]? =some y→¬q y)∧St H1 w σ) ak ?_ ?_ ?_)))))))
 ·exact .mk ⟨rfl,H,HLe.refl H,fun j hj=>by omega,hs⟩
 ·rintro k fr w hk ⟨rfl,H1,az,ew,hs⟩;obtain ⟨x,hx⟩:=nth hk;refine .block (.af (.z zm (.zn zg (.af (.z zm (.z zm (.z zm (.ixY hs (hR.mono az) rfl rfl ai an hx rfl ?_))))))));intro tZ o14 fq;refine .q hs (aR rfl aj fq) (.o (.jN (first:=[]) (cap:=cap) rfl rfl hc (hp _ _ _ x (List.mem_of_getElem? hx) az hs) ?_));rintro _ w ⟨H2,vC,aN,rfl,mJ,hs⟩;refine .nil (.cond rfl (fun dO=>?_) (fun dO=>?_))
  ·exact .af (.z zm (.zn zg (.ret (rB (rT (rB (rT (Fin.aW results140 rfl ⟨H2,_,az.trans aN,rfl,⟨fun _=>⟨x,List.mem_of_getElem? hx,mJ.1 dO⟩,fun _=>by omega⟩,hs⟩))))))))
  ·exact .skip (nB (nT (.mk ⟨rfl,H2,az.trans aN,eU ew hx (fun h=>by rw [mJ.2 h] at dO;cases dO),hs⟩)))
 ·rintro fr w ⟨rfl,H1,az,ew,hs⟩;refine nT (.af (.zn zg (.ret (Fin.aW results140 rfl ?_))));exact ⟨H1,_,az,rfl,⟨fun h=>by omega,fun ⟨x,h1,h2⟩=>by
   obtain ⟨j,hj⟩:=List.getElem?_of_mem h1;exact (ew j (List.getElem?_eq_some_iff.1 hj).1 x hj h2).elim⟩,hs⟩
theorem mD{w:World}{v:Value}(q:Int→Prop)(hs:St H w σ)(hR:RI H v xs)(hc:∀args w,(callFunc g args).run Tryz.prog w= .ok (.enter g args) w)
  (hp:∀H' w σ (n:Int),n∈xs→HLe H H'→St H' w σ→aaq g ([I n]++cap) w fun u w'=>∃H1 b,HLe H' H1∧u= .bool b∧(b=true↔q n)∧St H1 w' σ):
  aaq 81 [v,.func (.func g) #[] cap.toArray] w fun u w'=>∃H1 b,HLe H H1∧u= .bool b∧(b=true↔∃x∈xs,q x)∧St H1 w' σ:=by
 refine Cl.o func81 ntmps81 ag2 ?_;refine .af (.zn zg (.af (.z zm (.z zm (.o (.call call140 rfl (oL q hs hR hc hp) ?_))))));rintro _ w ⟨H1,i,az,rfl,hi,hs⟩;exact .z zC (.zn zg (.ret (Fin.aW results81 rfl ⟨H1,_,az,rfl,by simp only [decide_eq_true_eq];exact hi,hs⟩)))
theorem rh{w:World}(hs:St H w σ):aaq 187 [I a0,I a1,I a2] w fun v w'=>v= .bool (decide (a1≤a0∧a0≤a2))∧St H w' σ:=by
 refine Cl.o func187 ntmps187 ag3 ?_;refine .af (.zn zg (.af (.z zm (.z zm (.z ql (.z zm (.jK (t':=10) rfl (fun nL=>?_) (fun nL=>?_))))))))
 ·exact .T (.z zm (.T (.z zm (.T (.z ql (.z zpT (.zn zg (.ret (Fin.aW results187 rfl ⟨by simp [*],hs.out⟩)))))))))
 ·exact .Fs 3 3 true (.z zpF (.zn zg (.ret (Fin.aW results187 rfl ⟨by simp [*],hs.out⟩))))
theorem iz{w:World}{v:Value}{many:Nat}(hs:St H w σ)(hr:RI H v l):
  aaq 116 [v,I many,I most] w fun v w'=>∃b:Bool,v= .bool b∧(b=true↔gX many most l)∧St H w' σ:=by
 obtain ⟨a,c,rfl⟩:=RI.shape hr;have hlen:=(RI.len hr).2.2;refine Cl.o func116 ntmps116 ag3 ?_;refine .af (.zn zg (.seq (.af (.z zm (.z (bT ai) (.z zm (.o (.call call187 rfl (rh hs) ?_))))))));rintro _ w ⟨rfl,hs⟩;refine .z fF (.z zm (.bif (t':=14) rfl (fun Q1=>?_) (fun Q1=>?_)))
 ·exact .Fs 4 5 false (.z zpT (.z zm (.Fs 8 11 false (.zn zpT (.cT (.af (.zn zg (.ret (rT (Fin.aW results116 rfl ⟨false,rfl,⟨fun h=>(by cases h),fun h=>by have:=h.two;have:=h.many;simp at Q1;omega⟩,hs⟩))))))))))
 ·refine .T (.z zm (.T ?_));have Qy:2≤l.length∧l.length≤many:=by simp at Q1;omega
  refine .ixY hs hr rfl rfl ai an (ck (l:=l) (i:=0) ak) eu ?_;intro vC o16 dO;refine .T (.q hs (aR rfl aj dO) (.T (.z fT (.z zpF (.z zm (.jK (t':=20) rfl (fun XX=>?_) (fun XX=>?_)))))))
  ·exact .Fs 8 11 false (.zn zpT (.cT (.af (.zn zg (.ret (rT (Fin.aW results116 rfl ⟨false,rfl,⟨fun h=>(by cases h),fun h=>by have:=h.low;omega⟩,hs⟩)))))))
  ·refine .T (.z zm (.T (.z zm (.T (.z (bT ai) (.T (.z jj (.T (.ixY hs hr rfl rfl ai an (ck (l:=l) (i:=(l.length - 1)) ak) eu ?_)))))))));intro Lj o25 jq;refine .T (.q hs (aR rfl aj jq) (.T (.z zm (.T (.z nE (.zn zpF (.bQ rfl (fun Aa=>?_) (fun Aa=>?_))))))))
   ·exact .af (.zn zg (.ret (rT (Fin.aW results116 rfl ⟨false,rfl,⟨fun h=>(by cases h),fun h=>by have:=h.high;omega⟩,hs⟩))))
   ·refine .skip (nT (.seq (.af (.z zm (.q hs (De (k:=1) rfl rfl ai an ak ak) (.z (bT ai) (.zn zm (.for (N:=l.length - 1) (J:=fun k fr w=>fr=[(31,.slice (if c=1 then a else a.map (·.add (1*1))) (l.length - 1) (c - 1)),(0,.slice a l.length c)]∧(∀j<k,gi l j<gi l (j+1))∧St H w σ) ak ?_ ?_ ?_))))))))
    ·exact .mk ⟨rfl,fun j hj=>by omega,hs⟩
    ·rintro k fr w hk ⟨rfl,ew,hs⟩;have ht:=hr.tail (k:=1) ak;have hx:(l.drop 1)[k]? =some (gi l (k+1)):=by rw [List.getElem?_drop,Nat.add_comm];exact ck ak
     refine .block (.af (.z zm (.ixY hs ht rfl rfl ai an hx rfl ?_)));intro YC o36 BT;refine .q hs (aR rfl aj BT) (.z zg (.zn zg (.af (.z zm (.z zm (.ixY hs hr rfl rfl ai an (ck (l:=l) (i:=k) ak) eu ?_))))));intro UO o40 uO;refine .q hs (aR rfl aj uO) (.z zm (.zn zC (.bQ rfl (fun BR=>?_) (fun BR=>?_))))
     ·exact .af (.zn zg (.ret (rB (rT (rB (rT (Fin.aW results116 rfl ⟨false,rfl,⟨fun h=>(by cases h),fun h=>by have:=h.rise k ak;omega⟩,hs⟩)))))))
     ·refine .skip (nB (nT ?_));exact .mk ⟨rfl,fun j hj=>by
       by_cases e:j=k
       ·subst e;omega
       ·exact ew j ak,hs⟩
    ·rintro fr w ⟨rfl,ew,hs⟩;exact nT (.af (.zn zg (.ret (Fin.aW results116 rfl ⟨true,rfl,⟨fun _=>⟨ak,ak,ak,ak,fun i hi=>ew i ak⟩,fun _=>rfl⟩,hs⟩))))
theorem oJ{w:World}{v:Value}(hs:St H w σ)(hr:RI H v l):
  aaq 66 [v] w fun v w'=>∃e,v=I e∧((gX 9 100000 l∧e=0)∨(¬gX 9 100000 l∧e≠0))∧St H w' σ:=by
 obtain ⟨a,c,rfl⟩:=RI.shape hr;refine Cl.o func66 ntmps66 ag1 ?_;refine .af (.zn zg (.seq (.af (.z zm (.o (.call call116 rfl (iz (many:=9) (most:=100000) hs hr) ?_))))));rintro _ w ⟨b4,rfl,VF,hs⟩;refine .zn fF (.cond rfl (fun QU=>?_) (fun QU=>?_))
 ·exact .af (.zn zg (.ret (rT (Fin.aW results66 rfl ⟨_,rfl,.inr ⟨fun h=>by simp [VF.2 h] at QU,by decide⟩,hs⟩))))
 ·exact .skip (nT (.af (.zn zg (.ret (Fin.aW results66 rfl ⟨_,rfl,.inl ⟨VF.1 (by simpa using QU),rfl⟩,hs⟩)))))
theorem iQ{w:World}{b:Int}(hs:St H w σ)(ha:0<a)(hb:0<b∧b≤100000):
  aaq 119 [I a,I b] w fun v w'=>v=I (rat a b)∧St H w' σ:=by
 have h1:0≤b.tdiv a:=Int.tdiv_nonneg ak ak;have h2:b.tdiv a≤b:=by rw [Int.tdiv_eq_ediv_of_nonneg ak];exact Int.ediv_le_self _ ak
 have hw:=mH (m:=b.tdiv a) ⟨ak,ak⟩;refine Cl.o func119 ntmps119 ag2 ?_;refine .af (.zn zg (.seq (.af (.z zm (.z zm (.z IQ (.z fW (.z zm (.jK (t':=9) rfl (fun LO=>?_) (fun LO=>?_))))))))))
 ·refine .T (.z zm (.T (.z zm (.T (.z RN (.T (.z ql (.zn zpT (.bQ rfl (fun fq=>?_) (fun fq=>?_))))))))))
  ·refine .af (.z zm (.z zm (.z RN (.zn zg (.ret (rT (Fin.aW results119 rfl ?_)))))));rw [hw] at fq ⊢;exact ⟨by unfold rat;rw [if_pos ⟨by assumption,by assumption⟩],hs⟩
  ·refine .skip (nT (.af (.zn zg (.ret (Fin.aW results119 rfl ?_)))));rw [hw] at fq;exact ⟨by unfold rat;rw [if_neg ak],hs⟩
 ·exact .Fs 4 4 true (.zn zpF (.cF (.skip (nT (.af (.zn zg (.ret (Fin.aW results119 rfl ⟨by unfold rat;rw [if_neg ak],hs⟩))))))))
def te(l:List Int):List (List Value):=(BV l).map fun g=>[Value.agg #[I (g.at_:Int),I (g.n:Int)]]
theorem I3(hp:gX 9 100000 l){i:Nat}(h:i+2<l.length):gw l i=true↔0<rat (gi l (i+1) - gi l i) (gi l (i+2) - gi l (i+1))∨0<rat (gi l (i+2) - gi l (i+1)) (gi l (i+1) - gi l i):=by
 have h1:=hp.rise i ak;have h2:gi l (i+1)<gi l (i+2):=hp.rise (i+1) ak;unfold gw;rw [I8 ak ak];simp only [Bool.and_eq_true,decide_eq_true_eq];omega
theorem rj{v:Value}(hp:gX 9 100000 l)(hb:Row H b [v])(hr:RI H v l):Iter Tryz.prog 188 [Pt b] H (te l):=by
 intro ly II Ix _ _ hy H0 Hg σf w hle D8 hs;obtain ⟨a,c,rfl⟩:=RI.shape hr;have hlen:=hp.many;have KM:cellAt H0 b 0=some (.slice a l.length c):=cellAt.mono (hb.at 0) hle;refine Cl.o func188 ntmps188 ag2 ?_;refine .af (.zn zg (.block ?_));refine .loop (fun i:Nat=>⟨59,[],[(3,I (i:Int)),(0,.func (.yield ly) #[] #[]),(1,Pt b)]⟩)
  (fun i w=>i≤l.length∧∃j,j≤(BV l).length∧(BV l).drop j=qR l i∧∃H1 σb,HLe H H1∧HLe H0 H1∧II j H1 σb∧St H1 w (σb++σf)) (fun i=>l.length - i) 0 (.dw rfl aU bg)
  ⟨Nat.zero_le _,0,Nat.zero_le _,rfl,H0,Hg,hle,HLe.refl _,D8,hs⟩ ?_
 clear hs D8;rintro i w ⟨Km,j,hj,hd,H1,σb,az,fA,hI,hs⟩;have D6:cellAt H1 b 0=some (.slice a l.length c):=cellAt.mono KM fA;refine .seq (.af (.z zm (.z cC (.y hs (zld aC) (.z (bT ai) (.zn fT (.bQ rfl (fun wP=>?_) (fun wP=>?_))))))))
 ·refine .skip (nT (.block (.af (.z zm (.z (zbd [_,_] Ch) (.o (.alloc hs zeroValue260 rfl fun b4 w hs=>?_)))))));refine .o (.aL (vs:=[_,_]) hs rfl rfl sizeOf260 fun w hs=>?_);refine .nil (.cut (fun fs w=>ob fs ⟨59,[],[(4,Pt b4),(3,I (i:Int)),(0,.func (.yield ly) #[] #[]),(1,Pt b)]⟩∧St H1 w (.blk b4 [I (i:Int),I (((if gw l i then 2 else 1:Nat)):Int)]::(σb++σf))) ?_ ?_)
  ·refine .af (.z zm (.z cC (.y hs (zld aC) (.z (bT ai) (.zn fT (.bQ rfl (fun oQ=>?_) (fun oQ=>?_)))))))
   ·refine .seq (.draw mix rfl hs fun w hs=>?_);refine .y 0 rfl hs aC ?_;refine .z 1 rfl zm ?_;refine .z 2 rfl cC ?_;have r1:=hp.rise i ak;have r2:gi l (i+1)<gi l (i+2):=hp.rise (i+1) ak;have HV:=I3 hp (i:=i) ak;have q1:=hp.bd (i:=i) ak;have q2:=hp.bd (i:=i+2) ak;refine .ixX (enc:=fun x=>[I x]) (i:=3) hs rfl aF .none (hr.mono az) rfl rfl ai an (ck (l:=l) (i:=(i+1)) ak) eu ?_;intro Iw o22 ny;replace ny:=bI.one ny;refine .r (i:=4) hs rfl aF .none (aR rfl aj ny) ?_;refine .y 5 rfl hs aC ?_;refine .z 6 rfl zm ?_;refine .ixX (enc:=fun x=>[I x]) (i:=7) hs rfl aF .none (hr.mono az) rfl rfl ai an (ck (l:=l) (i:=i) ak) eu ?_;intro YD o26 jo;replace jo:=bI.one jo;refine .r (i:=8) hs rfl aF .none (aR rfl aj jo) ?_;refine .zw 9 rfl jj ?_;refine .y 10 rfl hs aC ?_;refine .z 11 rfl zm ?_;refine .z 12 rfl cC ?_;refine .ixX (enc:=fun x=>[I x]) (i:=13) hs rfl aF .none (hr.mono az) rfl rfl ai an (ck (l:=l) (i:=(i+2)) ak) eu ?_;intro Se o32 DZ;replace DZ:=bI.one DZ;refine .r (i:=14) hs rfl aF .none (aR rfl aj DZ) ?_;refine .y 15 rfl hs aC ?_;refine .z 16 rfl zm ?_;refine .z 17 rfl cC ?_;refine .ixX (enc:=fun x=>[I x]) (i:=18) hs rfl aF .none (hr.mono az) rfl rfl ai an (ck (l:=l) (i:=(i+1)) ak) eu ?_;intro VU o37 rR;replace rR:=bI.one rR;refine .r (i:=19) hs rfl aF .none (aR rfl aj rR) ?_;refine .zw 20 rfl jj ?_;refine .z 21 rfl zg ?_;refine .z 22 rfl zg ?_;refine .D hs ?_;refine .af (.z zm (.z zm (.o (.call call119 rfl (iQ hs ak ak) ?_))));rintro _ w ⟨rfl,hs⟩;refine .z nE (.z zm (.jK (t':=44) rfl (fun Ic=>?_) (fun Ic=>?_)))
    ·refine .Fs 4 4 false (.zn zpT (.cT (.region (.z (zfa km) (.o (.store hs rfl rfl an fun w hs=>?_))))));refine .nil (nT ?_);rw [HV.2 (.inl Ic)];exact ⟨bg,hs⟩
    ·refine .T (.z zm (.T (.z zm (.T (.o (.call call119 rfl (iQ hs ak ak) ?_))))));rintro _ w ⟨rfl,hs⟩;refine .T (.z nE (.zn zpF (.bQ rfl (fun DY=>?_) (fun DY=>?_))))
     ·refine .region (.z (zfa km) (.o (.store hs rfl rfl an fun w hs=>?_)));refine .nil (nT ?_);rw [HV.2 (.inr DY)];exact ⟨bg,hs⟩
     ·refine .skip (nT ?_);rw [show gw l i=false from Bool.eq_false_iff.2 fun h=>by have:=HV.1 h;omega];exact ⟨bg,hs⟩
   ·refine .skip (nT ?_);rw [show gw l i=false by simp [gw];omega];exact ⟨bg,hs⟩
  ·rintro fs w ⟨j8,hs⟩;refine WE.sub ?_ j8;have Vz:=D9 (l:=l) (i:=i) ak;rw [Vz] at hd;have Kl:j<(BV l).length:=by
    have:=congrArg List.length hd;simp at this;omega
   have hgj:(BV l)[j]=⟨i,gw l i⟩:=by
    rw [List.drop_eq_getElem_cons Kl] at hd;exact (List.cons.inj hd).1
   have hdj:(BV l).drop (j+1)=qR l (i+(if gw l i then 2 else 1)):=by
    rw [List.drop_eq_getElem_cons Kl] at hd;exact (List.cons.inj hd).2
   have hn12:(if gw l i then 2 else 1:Nat)=1∨(if gw l i then 2 else 1:Nat)=2:=by split<;>simp
   refine .seq (.af (.z zm (.y hs (zls [_,_] isAgg260 sizeOf260) ?_)));have z7:j<(te l).length:=by simpa [te] using Kl
   have BL:=hy j z7 H1 σb (.blk b4 [I (i:Int),I (((if gw l i then 2 else 1:Nat)):Int)]::σf) w az hI (St.deep hs);rw [show (te l)[j]=[Value.agg #[I (i:Int),I (((if gw l i then 2 else 1:Nat)):Int)]] by simp only [te,List.getElem_map,hgj];rfl] at BL;refine .o (.yield rfl rfl BL ?_);rintro v53 w ⟨H2,σ2,g1,hs,g3⟩;obtain ⟨bb,rfl,gT,gF⟩:=rb g3;replace hs:=St.shallow hs;refine .zn fF (.cond rfl (fun Nl=>?_) (fun Nl=>?_))
   ·exact .ret (rT (rB (rT (rB (Fin.Su results188 ⟨H2,σ2,fA.trans g1,hs.tail,.inr (gF (by simpa using Nl))⟩)))))
   ·refine .skip (nT (.region (.z zm (.z (zfa km) (.y hs (zld aj) (.z cC (.zn zg (nB (nT ?_)))))))));generalize (if gw l i then 2 else 1:Nat)=n at*;exact ⟨i+n,.dw rfl aU bg,⟨ak,j+1,Kl,hdj,H2,σ2,az.trans g1,fA.trans g1,gT (by simpa using Nl),hs.tail⟩,ak⟩
 ·refine .exit (xT (xT (xB ?_)));rw [AX ak] at hd;have:(BV l).length≤j:=by simpa using hd
  obtain rfl:j=(BV l).length:=by omega
  exact Fin.zG results188 ⟨H1,σb,fA,hs,.inl (by simpa [te] using hI)⟩
theorem uk{w:World}{v:Value}(hs:St H w σ)(hr:RI H v l)(hp:gX 9 100000 l):
  aaq 118 [v] w fun u w'=>∃H1 b,HLe H H1∧u= .func (.func 188) #[] #[Pt b]∧Iter Tryz.prog 188 [Pt b] H1 (te l)∧St H1 w' σ:=by
 obtain ⟨a,c,rfl⟩:=RI.shape hr;refine Cl.o func118 ntmps118 ag1 ?_;refine .af (.bx hs fun b1 w hs=>?_);refine .zn zg (.af (.q hs (dv (f:=[]) (c:=[_]) rfl rfl) (.zn zg (.ret (Fin.aW results118 rfl ?_)))));obtain ⟨H1,g1,g2,hs⟩:=hs.bG .here;exact ⟨H1,b1,g1,rfl,rj hp g2 (hr.mono g1),hs⟩
theorem qN{w:World}{bs bW from_ n:Nat}{W:List Int}{v:Value}(hs:St H w (.blk bs [.slice (some ⟨bW,0,none⟩) n n]:: .blk bW (Is W)::σ))(hW:W.length=n)(hr:RI H v xs)(hl:from_+xs.length≤n)(hn:n≤9)
  (hz:bD W n≤1000000000) (ha:A5 xs≤1000000000):
  aaq 117 [Pt bs,I (from_:Int),v] w fun _ w'=>St H w' (.blk bs [.slice (some ⟨bW,0,none⟩) n n]:: .blk bW (Is (mO W from_ xs))::σ):=by
 obtain ⟨a,c,rfl⟩:=RI.shape hr;have hlen:=(RI.len hr).2.2;refine Cl.o func117 ntmps117 ag3 ?_;refine .af (.z zm (.z (bT ai) (.zn zm (.for (N:=xs.length) (J:=fun k fr w=>fr=[(8,.slice a xs.length c),(0,Pt bs),(1,I (from_:Int))]∧St H w (.blk bs [.slice (some ⟨bW,0,none⟩) n n]:: .blk bW (Is (mO W from_ (xs.take k)))::σ)) ak ?_ ?_ ?_))))
 ·exact .mk ⟨rfl,hs⟩
 ·rintro k fr w hk ⟨rfl,hs⟩;have Nu:=pS (xs.take k) W from_;have rQ:=sh (xs.take k) W from_ (by rw [List.length_take];omega);rw [hW] at rQ;have h1:=Ey xs k;have h2:=Lp xs k;have h3:=pZ (mO W from_ (xs.take k)) (v:=from_+k) (n:=n) ak;have h4:=IB hk W from_;refine .block (.af (.z zm (.ixY hs hr rfl rfl ai an (ck (l:=xs) (i:=k) ak) eu ?_)));intro lJ o13 iH;refine .q hs (aR rfl aj iH) (.z zg (.zn zg (.region (.z zm (.z znc (.z (zfa qS) (.y hs (zld aC) (.z zm (.z zm (.z cC (.q hs (l6 (k:=from_+k) rfl rfl ai an ak ak) (.y hs (zld aj) (.z zm (.z cC (.q hs (l6 (k:=from_+k) rfl rfl ai an ak ak) (.o (.store hs rfl rfl an fun w hs=>?_)))))))))))))))));exact .nil (nB (nT (.mk ⟨rfl,by rw [h4];exact hs⟩)))
 ·rintro fr w ⟨rfl,hs⟩;rw [List.take_length] at hs;exact Fin.zG results117 hs
theorem HL{b:Int}(ha:0<a∧a≤100000)(hb:0<b∧b≤100000):0≤min a b∧min a b≤100000:=by omega
theorem PT{b:Int}(h:0<tms a b):tms a b=1∨tms a b=2∨tms a b=3:=by have:=Og a b;omega
set_option maxHeartbeats 1000000 in
theorem jv{w:World}{v:Value}(hs:St H w σ)(hr:RI H v l)(hp:gX 9 100000 l):
  aaq 67 [v] w fun u w'=>∃H1,HLe H H1∧RI H1 u (wts l)∧St H1 w' σ:=by
 obtain ⟨a,c,rfl⟩:=RI.shape hr;have Zx:=hp.many;have hgl:(BV l).length≤9:=by have:=vV l l.length 0;unfold BV;omega
 refine Cl.o func67 ntmps67 ag1 ?_;refine .af (.bx hs fun b1 w hs=>?_);refine .zn zg (.af (.y hs (zld aC) (.z (bT ai) (.o (.Dt l.length hs rfl rfl ai tP rfl an dM ak fun lJ w hs=>?_)))));refine .z (zbd [_] Cf) (.o (.alloc hs zeroValue254 rfl fun b3 w hs=>?_));refine .o (.aL (vs:=[_]) hs rfl rfl sizeOf254 fun w hs=>?_);refine .nil (.af (.q hs (dv (f:=[_]) (c:=[]) rfl rfl) (.o (.alloc hs zeroValue255 rfl fun b4 w hs=>?_))));refine .o (.store hs rfl rfl sizeOf255 fun w hs=>?_);refine .nil (.seq (.af (.y hs (zld aC) (.o (.call call118 rfl (uk hs hr hp) ?_)))));rintro _ w ⟨H1,wj,az,rfl,sq,hs⟩;refine .nil (.block ?_);refine .rangeFunc (gf:=188) (cap:=[Pt wj]) (xs:=te l) (σb:=[.blk b3 [.slice (some ⟨lJ,0,none⟩) l.length l.length],.blk lJ (Is (EH l 0)),.blk b4 [.func (.func 117) #[Pt b3] #[]],.blk b1 [.slice a l.length c]]) (σf:=σ) (hs.sb) trivial rfl sq call188 (fun x hx=>by
   simp only [te,List.mem_map] at hx;obtain ⟨j,_,rfl⟩:=hx;rfl) rfl
  (I:=fun j H' σb=>σb=[.blk b3 [.slice (some ⟨lJ,0,none⟩) l.length l.length],.blk lJ (Is (EH l j)),.blk b4 [.func (.func 117) #[Pt b3] #[]],.blk b1 [.slice a l.length c]]) (Ix:=fun _ _ _=>False)
  (fun j _ _ σ g1 g2=>g2) (fun _ _ _ _ _ h=>h) rfl ?_ ?_ (fun D c H' σb w _ h _=>h.elim)
 ·rintro ly j hj H2 Cx zB w aN rfl hs ⟨rr,LH⟩;have Kl:j<(BV l).length:=by simpa [te] using hj
  obtain ⟨g,hg⟩:=nth Kl;rw [show (te l)[j]=[Value.agg #[I (g.at_:Int),I (g.n:Int)]] by
   rw [List.getElem?_eq_getElem Kl] at hg;simp only [te,List.getElem_map,Option.some.inj hg]]
  obtain ⟨i1,i2,i3,i4,i5⟩:=Ea hp (List.mem_of_getElem? hg);have hK:=CS hg;have Z8:=re l j;have hKz:=Ax hp j ak;have BO:=hr.mono (az.trans aN);have RV:=hp.bd (i:=g.at_) ak;have OK:=hp.bd (i:=g.at_+1) ak;generalize hA:gi l (g.at_+1) - gi l g.at_=A at*;refine .region (.o (.alloc hs zeroValue260 rfl fun b5 w hs=>?_));refine .o (.aL (vs:=[_,_]) hs rfl rfl sizeOf260 fun w hs=>?_);refine .nil (nT ⟨H2,[.blk b5 [I (g.at_:Int),I (g.n:Int)],.blk b3 [.slice (some ⟨lJ,0,none⟩) l.length l.length],.blk lJ (Is (EH l j)),.blk b4 [.func (.func 117) #[Pt b3] #[]],.blk b1 [.slice a l.length c]],HLe.refl _,hs,?_⟩);rintro w zA - hs;refine .block (.seq (.draw mix rfl hs fun w hs=>?_));refine .y 0 rfl hs aC ?_;refine .z 1 rfl (zfa gH) ?_;refine .y 2 rfl hs aj ?_;refine .z 3 rfl cC ?_;refine .ixX (enc:=fun x=>[I x]) (i:=4) hs rfl aF .none BO rfl rfl ai an (ck (l:=l) (i:=(g.at_+1)) ak) eu ?_;intro Iv o23 jM;replace jM:=bI.one jM;refine .r (i:=5) hs rfl aF .none (aR rfl aj jM) ?_;refine .y 6 rfl hs aC ?_;refine .z 7 rfl (zfa gH) ?_;refine .y 8 rfl hs aj ?_;refine .ixX (enc:=fun x=>[I x]) (i:=9) hs rfl aF .none BO rfl rfl ai an (ck (l:=l) (i:=g.at_) ak) eu ?_;intro UR o28 l8;replace l8:=bI.one l8;refine .r (i:=10) hs rfl aF .none (aR rfl aj l8) ?_;refine .zw 11 rfl jj ?_;rw [hA];refine .zw 12 rfl zg ?_;refine .D hs ?_;refine .seq (.af (.z (zfa km) (.y hs (zld aj) (.z fW ?_))))
  skip
  refine .nil (.bQ rfl (fun s7=>?_) (fun s7=>?_))
  ·refine .af (.y hs (zld isAgg255) (.z (zfa gH) (.y hs (zld aj) (.z zm (.z oq (.z zm (.z oq (.o (.buildSlice (cells:=[_,_]) hs dX rfl rfl fun YA w hs=>?_)))))))));have h2:g.two=false:=by
    cases e:g.two with
    |false=>rfl
    |true=>simp [Grp.n,e] at s7
   obtain ⟨H3,bA,r41,hs⟩:=bE.bX (xs:=[18*A,18*A]) (v:= .slice (some ⟨YA,0,none⟩) 2 2) (.full (len:=2) rfl) aU hs cg;have RZ:=NH h2 hA;rw [RZ] at hK i5;replace hs:St H3 w (.blk b3 [.slice (some ⟨lJ,0,none⟩) l.length l.length]:: .blk lJ (Is (EH l j)):: .blk b5 [I (g.at_:Int),I (g.n:Int)]:: .blk b4 [.func (.func 117) #[Pt b3] #[]]:: .blk b1 [.slice a l.length c]::zA):=hs.sb;refine .o (.jN (first:=[Pt b3]) (cap:=[]) rfl rfl call117 (qN (from_:=g.at_) (xs:=[18*A,18*A]) hs Z8 r41 (by simp;omega) ak ak ak) ?_);rintro _ w hs;rw [←hK] at hs;exact .nil (.exit (xT (xB ⟨H3,_,bA,(hs.sb:St H3 w (.blk b3 _:: .blk lJ _:: .blk b4 _:: .blk b1 _::zA)),rfl⟩)))
  ·refine .skip (nT (.seq (.draw mix rfl hs fun w hs=>?_)));have h2:g.two=true:=by
    cases e:g.two with
    |true=>rfl
    |false=>simp [Grp.n,e] at s7
   obtain ⟨j1,j2,j3,j4⟩:=i4 h2;have hq2:=hp.bd (i:=g.at_+2) ak;generalize hB:gi l (g.at_+2) - gi l (g.at_+1)=B at*;have hmx:=I8 (a:=A) (b:=B) ak ak;have hk:=PT j4;have QF:=HL (a:=A) (b:=B) ⟨ak,ak⟩ ⟨ak,ak⟩;obtain ⟨n1,n2,n3,n4⟩:=NF hk QF.1 QF.2;obtain ⟨n5,n6,n7,n8,n9⟩:=n4 _ n3.1 n3.2;generalize hT:tms A B=T at*;generalize hM:min A B=M at*;have RZ:=NG h2 hA hB hT hM;refine .y 0 rfl hs aC ?_;refine .z 1 rfl (zfa gH) ?_;refine .y 2 rfl hs aj ?_;refine .z 3 rfl cC ?_;refine .ixX (enc:=fun x=>[I x]) (i:=4) hs rfl aF .none BO rfl rfl ai an (ck (l:=l) (i:=(g.at_+2)) ak) eu ?_;intro aam o47 qt;replace qt:=bI.one qt;refine .r (i:=5) hs rfl aF .none (aR rfl aj qt) ?_;refine .y 6 rfl hs aC ?_;refine .z 7 rfl (zfa gH) ?_;refine .y 8 rfl hs aj ?_;refine .z 9 rfl cC ?_;refine .ixX (enc:=fun x=>[I x]) (i:=10) hs rfl aF .none BO rfl rfl ai an (ck (l:=l) (i:=(g.at_+1)) ak) eu ?_;intro b53 o53 QS;replace QS:=bI.one QS;refine .r (i:=11) hs rfl aF .none (aR rfl aj QS) ?_;refine .zw 12 rfl jj ?_;rw [hB];refine .zw 13 rfl zg ?_;refine .D hs ?_;refine .af (.z zm (.z zm (.o (.call call119 rfl (iQ hs ak ak) ?_))));rintro _ w ⟨rfl,hs⟩;refine .z zm (.z zm (.o (.call call119 rfl (iQ hs ak ak) ?_)));rintro _ w ⟨rfl,hs⟩;refine .z RO ?_;rw [←hmx];refine .zn zg (.af (.z zm (.q hs (Gh rfl rfl ak ak) (.z zm (.z cC (.z oq (.z zm (.z zm (.z LW ?_)))))))));rw [hM];refine .z oq (.zn zg (.af (.z zm (.z zm (.z oq (.z zm (.z jj (.z oq (.z zm (.z zm (.z cC (.z oq (.z zm (.z cC (.z oq (.z zm (.z zm (.z oq (.z jj (.z oq (.o (.buildSlice (cells:=[_,_,_]) hs mA rfl rfl fun UL w hs=>?_))))))))))))))))))))));refine .zn zg (.cut (fun fs w=>∃H3,ob fs ⟨103,[],[(10,.slice (some ⟨UL,0,none⟩) 3 3),(5,Pt b5),(4,Pt b4),(3,Pt b3),(1,Pt b1)]⟩∧HLe H2 H3∧RI H3 (.slice (some ⟨UL,0,none⟩) 3 3) (AY l g)∧St H3 w (.blk b3 [.slice (some ⟨lJ,0,none⟩) l.length l.length]:: .blk lJ (Is (EH l j)):: .blk b5 [I (g.at_:Int),I (g.n:Int)]:: .blk b4 [.func (.func 117) #[Pt b3] #[]]:: .blk b1 [.slice a l.length c]::zA)) ?_ ?_)
   ·refine .af (.z zm (.z zm (.zn nE (.bQ rfl (fun TV=>?_) (fun TV=>?_)))))
    ·refine .region (.z zm (.o (.call call120 rfl (mg (en:= .blk UL (Is [(6:Int).tdiv T*(1+T)*M*T*(2 - T),(6:Int).tdiv T*(1+T)*M*(1+T)*(1+T),(6:Int).tdiv T*(1+T)*M*(2*T - 1)])) (hs.sb:St H2 w (.blk UL _:: .blk b3 _:: .blk lJ _:: .blk b5 _:: .blk b4 _:: .blk b1 _::zA)) (.full rfl) aU) ?_)));rintro _ w ⟨en95,Yi,hs⟩;refine .nil (nT ?_);obtain ⟨H3,bA,r90,hs⟩:=bE.bX Yi aU hs .here;rw [if_pos TV] at RZ;rw [RZ];exact ⟨H3,bg,bA,r90,hs⟩
    ·refine .skip (nT ?_);obtain ⟨H3,bA,r90,hs⟩:=bE.bX (xs:=[(6:Int).tdiv T*(1+T)*M*T*(2 - T),(6:Int).tdiv T*(1+T)*M*(1+T)*(1+T),(6:Int).tdiv T*(1+T)*M*(2*T - 1)]) (v:= .slice (some ⟨UL,0,none⟩) 3 3) (.full (len:=3) rfl) aU hs cg;rw [if_neg ak] at RZ;rw [RZ];exact ⟨H3,bg,bA,r90,hs.sb⟩
   ·rintro fs w ⟨H3,j8,bA,r90,hs⟩;refine WE.sub ?_ j8;refine .region (.y hs (zld isAgg255) (.z (zfa gH) (.y hs (zld aj) (.z zm (.o (.jN (first:=[Pt b3]) (cap:=[]) rfl rfl call117 (qN (from_:=g.at_) (xs:=AY l g) hs Z8 r90 (by rw [GG,show g.n=2 by unfold Grp.n;rw [h2];rfl];omega) ak ak ak) ?_))))));rintro _ w hs;rw [←hK] at hs;exact .nil (nB ⟨H3,_,bA,(hs.sb:St H3 w (.blk b3 _:: .blk lJ _:: .blk b4 _:: .blk b1 _::zA)),rfl⟩)
 ·rintro D H2 Cx w aN rfl hs;rw [show (te l).length=(BV l).length by simp [te],LX] at hs;replace hs:St H2 w (.obj D (.deferred (some [])):: .blk b3 [.slice (some ⟨lJ,0,none⟩) l.length l.length]:: .blk lJ (Is (wts l)):: .blk b4 [.func (.func 117) #[Pt b3] #[]]:: .blk b1 [.slice a l.length c]::σ):=hs;refine nB (nT (.af (.z (zfa qS) (.y hs (zld aC) (.zn zg (.ret ?_))))));obtain ⟨H3,bA,hR,hs⟩:=bE.bX (xs:=wts l) (v:= .slice (some ⟨lJ,0,none⟩) l.length l.length) (.full (by simp [Is,jk])) (by rw [jk];omega) hs cg;exact Fin.ki [D] [] hs fun w hs=>⟨_,results1 results67 rfl,H3,az.trans (aN.trans bA),hR,hs.out⟩
def Hs(X Y:List Int)(i:Nat):List Int:=(List.range Y.length).map fun k=>gi X i*gi Y k
def tf(X Y:List Int)(i:Nat):List (List Int):=(List.range i).map (Hs X Y)
theorem ru(X Y:List Int)(i:Nat):(Hs X Y i).length=Y.length:=by simp [Hs]
theorem pB(X Y:List Int)(i:Nat):(tf X Y i).length=i:=by simp [tf]
theorem Ii(X Y:List Int)(i:Nat):tf X Y (i+1)=tf X Y i++[Hs X Y i]:=by simp [tf,List.range_succ]
theorem Js(hk:k<Y.length):(Hs X Y i).take (k+1)=(Hs X Y i).take k++[gi X i*gi Y k]:=by
 rw [eH (by simp [Hs,hk]:(Hs X Y i)[k]? =some (gi X i*gi Y k))]
theorem GI{n:Nat}(h:i<n):gr (tf X Y n) i=Hs X Y i:=by simp [gr,List.getD,tf,h]
theorem NI{n:Nat}(h:i<n)(hk:k<Y.length):gt (tf X Y n) i k=gi X i*gi Y k:=by
 unfold gt;rw [GI h];simp [gi,List.getD,Hs,hk]
inductive GrS(X Y:List Int)(b:Nat)(i k:Nat)(H:bp)(σ:List Ent):Prop
 |go (us:List Value) (v:Value) (en:Ent) (h:i<X.length) (h1:RLs H us (tf X Y i)) (h2:bE 1 v (Is ((Hs X Y i).take k)) en) (h3:σ=[.blk b (us++v::List.replicate (X.length - i - 1) (.slice none 0 0)),en])
 |fin (us:List Value) (h:i=X.length) (h1:RLs H us (tf X Y i)) (h3:σ=[.blk b us])
theorem GrS.mono{H':bp}(h:GrS X Y b i k H σ)(hl:HLe H H'):GrS X Y b i k H' σ:=by
 cases h with
 |go us v en h h1 h2 h3=>exact .go us v en h (h1.mono hl) h2 h3
 |fin us h h1 h3=>exact .fin us h (h1.mono hl) h3
theorem jw{w:World}{v:Value}(hs:St H w σ)(hr:RI H v l):
  aaq 24 [v] w fun u w'=>∃H1 vo e,HLe H H1∧u= .tuple #[vo,I e]∧(gX 9 100000 l→e=0∧RI H1 vo (wts l))∧St H1 w' σ:=by
 obtain ⟨a,c,rfl⟩:=RI.shape hr;refine Cl.o func24 ntmps24 ag1 ?_;refine .af (.z zg (.zn zg (.seq (.af (.z zm (.o (.call call66 rfl (oJ hs hr) ?_)))))));rintro _ w ⟨e,rfl,he,hs⟩;refine .zn zg (.af (.z zm (.zn gv (.gN rfl (fun EP=>?_) (fun EP=>?_)))))
 ·exact .af (.z zm (.z zg (.zn zg (.ret (rT (Fin.mh results24 rfl rfl ⟨H,_,_,HLe.refl H,rfl,fun h=>by rcases he with ⟨_,h2⟩|⟨h1,_⟩;exact (EP h2).elim;exact (h1 h).elim,hs⟩))))))
 ·refine .skip (nT (.af (.z zm ?_)))
  have hp:gX 9 100000 l:=by rcases he with ⟨h,_⟩|⟨_,h2⟩;exact h;exact (h2 (by simpa using EP)).elim
  refine .o (.call call67 rfl (jv hs hr hp) ?_);rintro v11 w ⟨H1,az,hR,hs⟩;exact .z zg (.zn zg (.ret (Fin.mh results24 rfl rfl ⟨H1,_,_,az,rfl,fun _=>⟨rfl,hR⟩,hs⟩)))
theorem uj{w:World}{a b:List Int}(hs:St H w σ)(h1:RI H v1 a)(h2:RI H v2 b):
  aaq 166 [v1,v2] w fun u w'=>∃bb:Bool,u= .bool bb∧(bb=true↔gX 9 100000 a∧gX 7 15000 b)∧St H w' σ:=by
 refine Cl.o func166 ntmps166 ag2 ?_;refine .af (.zn zg (.af (.z zm (.o (.call call116 rfl (iz (many:=9) (most:=100000) hs h1) ?_)))));rintro _ w ⟨b6,rfl,IY,hs⟩;refine .z zm (.bif (t':=7) rfl (fun Nq=>?_) (fun Nq=>?_))
 ·refine .T (.z zm (.T (.o (.call call116 rfl (iz (many:=7) (most:=15000) hs h2) ?_))));rintro _ w ⟨b9,rfl,LO,hs⟩;exact .z zpT (.zn zg (.ret (Fin.aW results166 rfl ⟨_,rfl,by rw [LO];exact ⟨fun h=>⟨IY.1 Nq,h⟩,fun h=>h.2⟩,hs⟩)))
 ·exact .Fs 2 2 true (.z zpF (.zn zg (.ret (Fin.aW results166 rfl ⟨_,rfl,⟨fun h=>(by cases h),fun h=>by rw [IY.2 h.1] at Nq;cases Nq⟩,hs⟩))))
theorem qm{w:World}{bx by_:Nat}{x y:Int}(hs:St H w σ)(hx:Row H bx [I x])(hy:Row H by_ [I y]):
  aaq 273 [Pt bx,Pt by_] w fun u w'=>u= .tuple #[I x,I y]∧St H w' σ:=by
 have CB:=hx.at 0;have hy0:=hy.at 0;refine Cl.o func273 ntmps273 ag2 ?_;refine .af (.z zg (.zn zg (.seq (.draw mix rfl hs fun w hs=>?_))));refine .y 0 rfl hs aj ?_;refine .y 1 rfl hs aj ?_;refine .z 2 rfl zg ?_;refine .z 3 rfl zg ?_;refine .D hs ?_;exact .ret (Fin.mh results273 rfl rfl ⟨rfl,hs⟩)
def PrE(X Y:List Int)(p:Nat)(H:bp)(z:List Value):Prop:=
 ∃bx by_,z=[.agg #[I ((p/Y.length:Nat):Int),I ((p%Y.length:Nat):Int)],.func (.func 273) #[] #[Pt bx,Pt by_]]∧Row H bx [I (gi X (p/Y.length))]∧Row H by_ [I (gi Y (p%Y.length))]
theorem sw{b2:Nat}(D6:Row H b1 [v1])(AV:Row H b2 [v2])(hX:RI H v1 X)(hY:RI H v2 Y)(Ih:X.length≤1000)(XZ:Y.length≤1000):
  N6 Tryz.prog 272 [Pt b1,Pt b2] H (X.length*Y.length) (PrE X Y):=by
 intro ly II Ix EM _ hy H0 Hg σf w hle D8 hs;obtain ⟨a1,c1,rfl⟩:=RI.shape hX;obtain ⟨a2,c2,rfl⟩:=RI.shape hY;have Yw:cellAt H0 b1 0=some (.slice a1 X.length c1):=cellAt.mono (D6.at 0) hle;have aaj:cellAt H0 b2 0=some (.slice a2 Y.length c2):=cellAt.mono (AV.at 0) hle;refine Cl.o func272 ntmps272 ag3 ?_;refine .af (.y hs (zld aC) (.z (bT ai) (.zn zm (.for (N:=X.length) (J:=fun i fr w=>fr=[(8,.slice a1 X.length c1),(0,.func (.yield ly) #[] #[]),(1,Pt b1),(2,Pt b2)]∧∃H1 σb,HLe H H1∧HLe H0 H1∧II (i*Y.length) H1 σb∧St H1 w (σb++σf)) ak ?_ ?_ ?_))))
 ·exact .mk ⟨rfl,H0,Hg,hle,HLe.refl _,by rw [Nat.zero_mul];exact D8,hs⟩
 ·rintro i fr w hi ⟨rfl,H1,σb,az,fA,hI,hs⟩;refine .block (.af (.z zm (.ixY hs (hX.mono az) rfl rfl ai an (ck (l:=X) (i:=i) ak) eu ?_)));intro lJ o13 iH;refine .q hs (aR rfl aj iH) (.o (.alloc hs dM rfl fun b5 w hs=>?_));refine .z zg (.o (.store hs rfl rfl an fun w hs=>?_));refine .nil (.af ?_);obtain ⟨H2,aN,r5,hs⟩:=hs.bG (b:=b5) .here;have h22:=cellAt.mono aaj (fA.trans aN);refine .y hs (zld aC) (.z (bT ai) (.zn zm (.for (N:=Y.length) (J:=fun k fr w=>fr=[(15,.slice a2 Y.length c2),(4,I (i:Int)),(10,I (i:Int)),(9,I (X.length:Int)),(5,Pt b5),(8,.slice a1 X.length c1),(0,.func (.yield ly) #[] #[]),(1,Pt b1),(2,Pt b2)]∧∃H3 σb,HLe H2 H3∧II (i*Y.length+k) H3 σb∧St H3 w (σb++σf)) ak ?_ ?_ ?_)))
  ·exact .mk ⟨rfl,H2,σb,HLe.refl _,EM _ _ _ _ aN hI,hs⟩
  ·rintro k fr w hk ⟨rfl,H3,LV,bA,KR,hs⟩;have jm:=fA.trans (aN.trans bA);have OR:=az.trans (aN.trans bA);refine .block (.af (.z zm (.ixY hs (hY.mono OR) rfl rfl ai an (ck (l:=Y) (i:=k) ak) eu ?_)));intro US o20 uR;refine .q hs (aR rfl aj uR) (.o (.alloc hs dM rfl fun b7 w hs=>?_));refine .z zg (.o (.store hs rfl rfl an fun w hs=>?_));refine .nil (.af (.z zm (.z zm (.z zm (.q hs (Bo (vs:=[(0,I (i:Int)),(1,I (k:Int))]) (cells:=[I (i:Int),I (k:Int)]) zeroValue127 rfl CO an rfl) (.q hs (dv (f:=[]) (c:=[_,_]) rfl rfl) ?_))))));obtain ⟨H4,gz,r7,hs⟩:=hs.bG (b:=b7) .here;obtain ⟨d1,d2⟩:=Sj (nw:=Y.length) (i:=i) (k:=k) hk;have fU:i*Y.length+k<X.length*Y.length:=by
    have:=Nat.mul_le_mul_right Y.length (show i+1≤X.length by omega);rw [Nat.add_mul,Nat.one_mul] at this;omega
   have BL:=hy (i*Y.length+k) fU [.agg #[I (i:Int),I (k:Int)],.func (.func 273) #[] #[Pt b5,Pt b7]] H4 LV σf w (OR.trans gz) ⟨b5,b7,by rw [d1,d2],by rw [d1];exact r5.mono (bA.trans gz),by rw [d2];exact r7⟩ (EM _ _ _ _ gz KR) hs;refine .o (.yield rfl rfl BL ?_);rintro v27 w ⟨H5,σ5,g1,hs,g3⟩;obtain ⟨bb,rfl,gT,gF⟩:=rb g3;refine .zn fF (.cond rfl (fun l8=>?_) (fun l8=>?_))
   ·exact .ret (rB (rT (rB (rB (rT (rB (Fin.Su results272 ⟨H5,σ5,jm.trans (gz.trans g1),hs,.inr (gF (by simpa using l8))⟩)))))))
   ·exact .skip (nB (nT (.mk ⟨rfl,H5,σ5,bA.trans (gz.trans g1),gT (by simpa using l8),hs⟩)))
  ·rintro fr w ⟨rfl,H3,LV,bA,KR,hs⟩;exact nB (nT (.mk ⟨rfl,H3,LV,az.trans (aN.trans bA),fA.trans (aN.trans bA),by rw [Nat.add_mul,Nat.one_mul];exact KR,hs⟩))
 ·rintro fr w ⟨rfl,H1,σb,az,fA,hI,hs⟩;exact Fin.zG results272 ⟨H1,σb,fA,hs,.inl hI⟩
theorem wv{w:World}(hs:St H w σ)(hX:RI H v1 X)(hY:RI H v2 Y)(Ih:X.length≤1000)(XZ:Y.length≤1000):
  aaq 225 [v1,v2] w fun u w'=>∃H1 b1 b2,HLe H H1∧u= .func (.func 272) #[] #[Pt b1,Pt b2]∧N6 Tryz.prog 272 [Pt b1,Pt b2] H1 (X.length*Y.length) (PrE X Y)∧St H1 w' σ:=by
 obtain ⟨a1,c1,rfl⟩:=RI.shape hX;obtain ⟨a2,c2,rfl⟩:=RI.shape hY;refine Cl.o func225 ntmps225 ag2 ?_;refine .af (.bx hs fun b2 w hs=>?_);refine .bx hs fun b3 w hs=>?_
 refine .zn zg (.af (.q hs (dv (f:=[]) (c:=[_,_]) rfl rfl) (.zn zg (.ret (Fin.aW results225 rfl ?_)))));obtain ⟨H1,g1,r1,hs⟩:=hs.bG (b:=b2) cg;obtain ⟨H2,g2,r2,hs⟩:=hs.bG (b:=b3) cg;exact ⟨H2,b2,b3,g1.trans g2,rfl,sw (r1.mono g2) r2 (hX.mono (g1.trans g2)) (hY.mono (g1.trans g2)) Ih XZ,hs⟩
set_option maxHeartbeats 1000000 in
theorem xJ{w:World}{l1 l2:List Int}(hs:St H w σ)(OI:RI H v1 l1)(BO:RI H v2 l2)(Ts:gX 9 100000 l1)(OM:gX 7 15000 l2):
  aaq 167 [v1,v2] w fun u w'=>∃H1,HLe H H1∧RT H1 u (tf (wts l1) (wts l2) l1.length)∧St H1 w' σ:=by
 obtain ⟨a1,c1,rfl⟩:=RI.shape OI;obtain ⟨a2,c2,rfl⟩:=RI.shape BO;have yJ:=Ts.many;have W6:=OM.many;have htw1:=Ts.two;have htw2:=OM.two;have W4:gX 9 100000 l2:=⟨OM.two,ak,OM.low,by have:=OM.high;omega,OM.rise⟩;have Ih:=jk l1;have XZ:=jk l2;have hXb:=Oc Ts;have hYb:=Oc OM;refine Cl.o func167 ntmps167 ag2 ?_;refine .af (.zn zg (.af (.z zm (.o (.call call67 rfl (jv hs OI Ts) ?_)))));rintro v13 w ⟨H1,az,hX,hs⟩;refine .z zm (.o (.call call67 rfl (jv hs (BO.mono az) W4) ?_));rintro v15 w ⟨H2,aN,hY,hs⟩;replace hX:=hX.mono aN;generalize wts l1=X at*;generalize wts l2=Y at*;obtain ⟨aX,cX,rfl⟩:=RI.shape hX;obtain ⟨aY,cY,rfl⟩:=RI.shape hY;refine .z zg (.zn zg (.af (.z zm (.z (bT ai) (.o (.SU l1.length hs rfl rfl aK typeInfo22 rfl aP mQ ak fun vB w hs=>?_))))));refine .o (.alloc hs zeroValue79 rfl fun b7 w hs=>?_);refine .o (.store hs rfl rfl sizeOf79 fun w hs=>?_);refine .nil (.seq (.af (.z zm (.z zm (.o (.call call225 rfl (wv hs hX hY ak ak) ?_))))));rintro _ w ⟨H3,bp1,bp2,bA,rfl,sq,hs⟩;have jm:=az.trans (aN.trans bA);have h0:GrS X Y vB 0 0 H3 [.blk vB (List.replicate l1.length (.slice none 0 0)),.nul]:=by
  refine .go [] (.slice none 0 0) .nul ak (RLs.nil _) (.nil 1 none) ?_;rw [Ih];obtain ⟨m,hm⟩:∃m,l1.length=m+1:=⟨l1.length - 1,ak⟩;rw [hm];rfl
 refine .nil (.block ?_);refine .On (gf:=272) (cap:=[Pt bp1,Pt bp2]) (N:=X.length*Y.length) (E:=PrE X Y) (σb:= .blk b7 [.slice (some ⟨vB,0,none⟩) l1.length l1.length]::[.blk vB (List.replicate l1.length (.slice none 0 0)),.nul]) (σf:=σ) (hs.nul.sb) trivial rfl sq call272 (fun k H' z ⟨_,_,hz,_⟩=>by rw [hz];rfl) rfl
  (I:=fun p H' σb=>∃σ1,σb= .blk b7 [.slice (some ⟨vB,0,none⟩) l1.length l1.length]::σ1∧GrS X Y vB (p/Y.length) (p%Y.length) H' σ1) (Ix:=fun _ _ _=>False)
  (fun j _ _ σ g1 ⟨σ1,g2,g3⟩=>⟨σ1,g2,g3.mono g1⟩) (fun _ _ _ _ _ h=>h) ⟨_,rfl,by rw [Nat.zero_div,Nat.zero_mod];exact h0⟩ ?_ ?_ (fun D c H' σb w _ h _=>h.elim)
 ·rintro ly p hp z H4 Cx zB w gz ⟨bx,by_,rfl,rx,ry⟩ ⟨σ1,rfl,hG⟩ hs ⟨rr,LH⟩;have Tv:=Gs (p:=p) (m:=Y.length) ak;have OV:=Nat.mod_lt p (show 0<Y.length by omega);have fH:p/Y.length<X.length:=Nat.div_lt_of_lt_mul (by rw [Nat.mul_comm];exact hp);generalize hi:p/Y.length=i at*;generalize hk:p%Y.length=k at*
  cases hG with
  |fin us h=>omega
  |go us v en h h1 h2 h3=>
  subst h3;obtain ⟨av,lv,cv,rfl,Zw⟩:=h2.shape;have M6:us.length=i:=by rw [h1.1,pB]
  have D6:=hXb i;have AV:=hYb k;have OL:=Pw (gi X i) (gi Y k);have hprb: -3456000000000≤gi X i*gi Y k∧gi X i*gi Y k≤3456000000000:=pv (A:=4800000) (B:=720000) (by unfold ab at D6;omega) (by unfold ab at AV;omega);refine .af (.o (.alloc hs zeroValue127 rfl fun b8 w hs=>?_));refine .o (.aL (vs:=[_,_]) hs rfl rfl sizeOf127 fun w hs=>?_);refine .nil (.region (.zn zg (nT ⟨H4,[.blk b8 [I (i:Int),I (k:Int)],.blk b7 [.slice (some ⟨vB,0,none⟩) l1.length l1.length],.blk vB (us++Value.slice av lv cv::List.replicate (X.length - i - 1) (Value.slice none 0 0)),en],HLe.refl _,hs,?_⟩)));rintro w zA - hs;refine .block (.af (.z zm (.o (.jN (first:=[]) (cap:=[Pt bx,Pt by_]) rfl rfl call273 (qm hs rx ry) ?_))));rintro _ w ⟨rfl,hs⟩;refine .z zm (.z zex (.z zex (.z zg (.zn zg (.draw mix rfl hs fun w hs=>?_)))));refine .zv 0 rfl hs (uM isAgg79) (.zw 1 rfl (zia 0 CO an) (.y 2 rfl hs aj ?_));refine .y 3 rfl hs isAgg79 ?_;refine .zw 4 rfl (zia 0 CO an) (.zv 5 rfl hs (uM aj) (.zw 6 rfl (l6 (k:=i) rfl rfl aK aP rfl ak) (.load (i:=7) hs rfl aF .none rfl aC ?_ (hv:=by rw [List.getElem?_append_right ak,M6,Nat.sub_self];rfl))));refine .zw 8 rfl zm ?_;refine .z 9 rfl zm ?_;refine .z 10 rfl oq ?_;refine .E 11 hs ?_;refine .buildSlice (cells:=[_]) hs bO rfl rfl ?_;intro UO w hs;refine .go (.E 12 hs ?_);refine .append (ys:=Is [gi X i*gi Y k]) hs bJ rfl rfl h2 (.own .here rfl rfl) (pV _) (fun l' h=>by simp at h;omega) ?_;intro v41 en41 w hO hs;rw [show Is ((Hs X Y i).take k)++Is [gi X i*gi Y k]=Is ((Hs X Y i).take (k+1)) by rw [Js OV];simp [Is]] at hO;obtain ⟨a41,l41,c41,rfl,hl41⟩:=hO.shape;refine .go (.zw 13 rfl (l6 (k:=i) rfl rfl aK aP rfl ak) (.E 14 hs ?_));refine .store (c':=us++ .slice a41 l41 c41::List.replicate (X.length - i - 1) (.slice none 0 0)) hs rfl rfl aP ?_ cg (by simp;omega) (by rw [List.set_append_right _ _ ak,M6,Nat.sub_self];rfl);intro w hs;refine .go (.D hs (nB ?_))
  rcases Tv with ⟨g1,g2,g3⟩|⟨g1,g2,g3⟩
  ·exact ⟨H4,[.blk b7 [.slice (some ⟨vB,0,none⟩) l1.length l1.length],.blk vB (us++ .slice a41 l41 c41::List.replicate (X.length - i - 1) (.slice none 0 0)),en41],HLe.refl _,(hs.sb:St H4 w (.blk b7 _:: .blk vB _::en41::zA)),_,rfl,by rw [g2,g3];exact .go us _ en41 h h1 hO rfl⟩
  ·obtain ⟨H5,ib,hR,hs⟩:=bE.bX hO (by rw [List.length_take,ru];omega) hs cg;rw [List.take_of_length_le (by rw [ru];omega)] at hR;have Pd:RLs H5 (us++[.slice a41 l41 c41]) (tf X Y (i+1)):=by rw [Ii];exact (h1.mono ib).snoc hR
   by_cases e:i+1<X.length
   ·refine ⟨H5,[.blk b7 [.slice (some ⟨vB,0,none⟩) l1.length l1.length],.blk vB (us++ .slice a41 l41 c41::List.replicate (X.length - i - 1) (.slice none 0 0)),.nul],ib,(hs.nul.sb:St H5 w (.blk b7 _:: .blk vB _:: .nul::zA)),_,rfl,?_⟩;rw [g2,g3];refine .go (us++[.slice a41 l41 c41]) (.slice none 0 0) .nul e Pd (.nil 1 none) ?_;obtain ⟨m,hm⟩:∃m,X.length - i - 1=m+1:=⟨X.length - i - 2,ak⟩;rw [hm,show X.length - (i+1) - 1=m by omega,List.append_assoc];rfl
   ·refine ⟨H5,[.blk b7 [.slice (some ⟨vB,0,none⟩) l1.length l1.length],.blk vB (us++ .slice a41 l41 c41::List.replicate (X.length - i - 1) (.slice none 0 0))],ib,(hs.sb:St H5 w (.blk b7 _:: .blk vB _::zA)),_,rfl,?_⟩;rw [g2,g3];refine .fin (us++[.slice a41 l41 c41]) ak Pd ?_;rw [show X.length - i - 1=0 by omega];rfl
 ·rintro D H4 Cx w gz ⟨σ1,rfl,hG⟩ hs;rw [Nat.mul_div_cancel _ ak,Nat.mul_mod_left] at hG
  cases hG with
  |go us v en h=>omega
  |fin us h h1 h3=>
  subst h3;replace hs:St H4 w (.obj D (.deferred (some [])):: .blk b7 [.slice (some ⟨vB,0,none⟩) l1.length l1.length]:: .blk vB us::σ):=hs;have M6:us.length=l1.length:=by rw [h1.1,pB,Ih]
  refine nB (nT (.af (.y hs (zld isAgg79) (.zn zg (.ret ?_)))));obtain ⟨H5,ib,hR,hs⟩:=h1.bG (v:= .slice (some ⟨vB,0,none⟩) l1.length l1.length) (en:= .blk vB us) (.full (by simp [M6])) ak hs cg;rw [Ih] at hR;exact Fin.ki [D] [] hs fun w hs=>⟨_,results1 results167 rfl,H5,jm.trans (gz.trans ib),hR,hs.out⟩
theorem o7{w:World}{l1 l2:List Int}(hs:St H w σ)(OI:RI H v1 l1)(BO:RI H v2 l2):
  aaq 99 [v1,v2] w fun u w'=>∃H1 vo e,HLe H H1∧u= .tuple #[vo,I e]∧(gX 9 100000 l1∧gX 7 15000 l2→e=0∧RT H1 vo (tf (wts l1) (wts l2) l1.length))∧(e=0→gX 9 100000 l1∧gX 7 15000 l2)∧St H1 w' σ:=by
 refine Cl.o func99 ntmps99 ag2 ?_;refine .af (.z zg (.zn zg (.seq (.af (.z zm (.z zm (.o (.call call166 rfl (uj hs OI BO) ?_))))))));rintro _ w ⟨b8,rfl,IX,hs⟩;refine .zn fF (.cond rfl (fun sr=>?_) (fun sr=>?_))
 ·exact .af (.z zg (.zn zg (.ret (rT (Fin.mh results99 rfl rfl ⟨H,_,_,HLe.refl H,rfl,fun h=>(by rw [IX.2 h] at sr;cases sr),fun h=>ak,hs⟩)))))
 ·refine .skip (nT (.af (.z zm (.z zm ?_))));have hp:=IX.1 (by simpa using sr);refine .o (.call call167 rfl (xJ hs OI BO hp.1 hp.2) ?_);rintro v12 w ⟨H1,az,hR,hs⟩;exact .z zg (.zn zg (.ret (Fin.mh results99 rfl rfl ⟨H1,_,_,az,rfl,fun _=>⟨rfl,hR⟩,fun _=>hp,hs⟩)))
theorem a8{w:World}(hs:St H w σ):aaq 100 [I a0,I a1,I a2] w fun v w'=>v= .bool (decide (a1≤a0∧a0≤a2))∧St H w' σ:=by
 refine Cl.o func100 ntmps100 ag3 ?_;refine .af (.zn zg (.af (.z zm (.z zm (.z ql (.z zm (.jK (t':=10) rfl (fun nL=>?_) (fun nL=>?_))))))))
 ·exact .T (.z zm (.T (.z zm (.T (.z ql (.z zpT (.zn zg (.ret (Fin.aW results100 rfl ⟨by simp [*],hs.out⟩)))))))))
 ·exact .Fs 3 3 true (.z zpF (.zn zg (.ret (Fin.aW results100 rfl ⟨by simp [*],hs.out⟩))))
theorem gZ{w:World}(hs:St H w σ):aaq 101 [I a0] w fun v w'=>v= .bool (decide (1≤a0∧a0≤99999))∧St H w' σ:=by
 refine Cl.o func101 ntmps101 ag1 ?_;refine .af (.zn zg (.af (.z zm (.o (.call gQ rfl (a8 hs) ?_)))));rintro _ w ⟨rfl,hs⟩;exact .zn zg (.ret (Fin.aW results101 rfl ⟨rfl,hs⟩))
theorem fZ{w:World}{vst vwa:Value}(hs:St H w σ)(h1:RI H vst s.st)(h2:RI H vwa s.wa):
  aaq 55 [.agg #[I s.id,I s.src,vst,vwa,I s.al,I s.up]] w fun v w'=>∃H1 e,HLe H H1∧v=I e∧((fV s∧e=0)∨(¬fV s∧e=30))∧St H1 w' σ:=by
 obtain ⟨ast,cst,rfl⟩:=RI.shape h1;obtain ⟨awa,cwa,rfl⟩:=RI.shape h2;refine Cl.o func55 ntmps55 ag1 ?_;refine .af (.bx hs fun b1 w hs=>?_);refine .zn zg (.seq (.af (.z (zfa bh) (.y hs (zld aC) (.z (zfa aV) (.y hs (zld aC) (.o (.call call99 rfl (o7 hs h1 h2) ?_))))))));rintro _ w ⟨H1,vo,e,az,rfl,hG,hG',hs⟩;refine .z zm (.z zex (.z zex (.z zg (.zn zg (.af (.z zm (.z gv (.z zm (.G2 (t':=15) rfl (fun D5=>?_) (fun D5=>?_))))))))))
 ·exact .Fs 4 2 false (.z zpT (.z zm (.Fs 4 8 false (.z zpT (.z zm (.Fs 5 14 false (.z zpT (.z zm (.Fs 5 21 false (.zn zpT (.cT (.af (.zn zg (.ret (rT (Fin.aW U6 rfl ⟨H1,_,az,rfl,.inr ⟨fun h=>by have:=(hG ⟨h.st,h.wa⟩).1;simp_all,rfl⟩,hs.out⟩))))))))))))))))
 ·refine .T (.z (zfa dr) (.T (.y hs (zld aj) (.T (.o (.call gQ rfl (a8 hs) ?_))))));rintro _ w ⟨rfl,hs⟩;refine .T (.z fF (.z zpF (.z zm (.bif (t':=21) rfl (fun Ig=>?_) (fun Ig=>?_)))))
  ·exact .Fs 4 8 false (.z zpT (.z zm (.Fs 5 14 false (.z zpT (.z zm (.Fs 5 21 false (.zn zpT (.cT (.af (.zn zg (.ret (rT (Fin.aW U6 rfl ⟨H1,_,az,rfl,.inr ⟨fun h=>by have:=h.id;simp_all,rfl⟩,hs.out⟩)))))))))))))
  ·refine .T (.z (zfa cP) (.T (.y hs (zld aj) (.T (.o (.call call101 rfl (gZ hs) ?_))))));rintro _ w ⟨rfl,hs⟩;refine .T (.z fF (.z zpF (.z zm (.bif (t':=27) rfl (fun rW=>?_) (fun rW=>?_)))))
   ·exact .Fs 5 14 false (.z zpT (.z zm (.Fs 5 21 false (.zn zpT (.cT (.af (.zn zg (.ret (rT (Fin.aW U6 rfl ⟨H1,_,az,rfl,.inr ⟨fun h=>by have:=h.src;simp_all,rfl⟩,hs.out⟩))))))))))
   ·refine .T (.z (zfa eh) (.T (.z (zfa nS) (.T (.y hs (zld aj) (.T (.o (.call gQ rfl (a8 hs) ?_))))))));rintro _ w ⟨rfl,hs⟩;refine .T (.z fF (.z zpF (.z zm (.bif (t':=34) rfl (fun XW=>?_) (fun XW=>?_)))))
    ·exact .Fs 5 21 false (.zn zpT (.cT (.af (.zn zg (.ret (rT (Fin.aW U6 rfl ⟨H1,_,az,rfl,.inr ⟨fun h=>by have:=h.al;simp_all,rfl⟩,hs.out⟩)))))))
    ·refine .T (.z (zfa eh) (.T (.z (zfa nR) (.T (.y hs (zld aj) (.T (.o (.call gQ rfl (a8 hs) ?_))))))));rintro _ w ⟨rfl,hs⟩;refine .T (.z fF (.zn zpF (.cond rfl (fun uO=>?_) (fun uO=>?_))))
     ·exact .af (.zn zg (.ret (rT (Fin.aW U6 rfl ⟨H1,_,az,rfl,.inr ⟨fun h=>by have:=h.up;simp_all,rfl⟩,hs.out⟩))))
     ·refine .skip (nT (.af (.zn zg (.ret (Fin.aW U6 rfl ?_)))));have hg:=hG' (by simp_all);exact ⟨H1,_,az,rfl,.inl ⟨⟨hg.1,hg.2,by simp_all,by simp_all,by simp_all,by simp_all⟩,rfl⟩,hs.out⟩
theorem oN{w:World}{r:Rdg}{vst vwa:Value}(hs:St H w σ)(h1:RI H vst s.st)(h2:RI H vwa s.wa):
  aaq 292 [.agg #[I s.id,I s.src,vst,vwa,I s.al,I s.up],.agg #[I r.src,I r.st,I r.wa,I r.val,I r.tol,I r.tape,I r.day]] w fun v w'=>∃b:Bool,v= .bool b∧(b=true↔k8 s r)∧St H w' σ:=by
 obtain ⟨ast,cst,rfl⟩:=RI.shape h1;obtain ⟨awa,cwa,rfl⟩:=RI.shape h2;have l1:=(RI.len h1).2.2;have l2:=(RI.len h2).2.2;refine Cl.o func292 ntmps292 ag2 ?_;refine .af (.bx hs fun b2 w hs=>?_);refine .bx hs fun b3 w hs=>?_
 refine .zn zg (.af (.z (zfa eE) (.y hs (zld aj) (.o (.call call101 rfl (gZ hs) ?_)))));rintro _ w ⟨rfl,hs⟩;refine .z zm (.bif (t':=8) rfl (fun IX=>?_) (fun IX=>?_))
 ·refine .T ?_;refine .z (zfa fi) (.T (.y hs (zld aj) (.T (.z (zfa bh) (.T (.y hs (zld aC) (.T (.z (bT ai) (.T (.z jj (.T (.o (.call gQ rfl (a8 hs) ?_)))))))))))));rintro _ w ⟨rfl,hs⟩;refine .z zpT (.z zm (.bif (t':=17) rfl (fun FJ=>?_) (fun FJ=>?_)))
  ·refine .T ?_;refine .z (zfa fh) (.T (.y hs (zld aj) (.T (.z (zfa aV) (.T (.y hs (zld aC) (.T (.z (bT ai) (.T (.z jj (.T (.o (.call gQ rfl (a8 hs) ?_)))))))))))));rintro _ w ⟨rfl,hs⟩;refine .z zpT (.z zm (.bif (t':=26) rfl (fun BU=>?_) (fun BU=>?_)))
   ·refine .T (.z (zfa cI) (.T (.y hs (zld aj) (.T (.o (.call gQ rfl (a8 hs) ?_))))));rintro _ w ⟨rfl,hs⟩;refine .z zpT (.z zm (.bif (t':=31) rfl (fun ta=>?_) (fun ta=>?_)))
    ·refine .T (.z (zfa dW) (.T (.y hs (zld aj) (.T (.z (zfa cI) (.T (.y hs (zld aj) (.T ?_))))))));have ht:0≤r.tol∧r.tol≤1000:=by simp_all
     refine .z jj (.T (.o (.call gQ rfl (a8 hs) ?_)));rintro _ w ⟨rfl,hs⟩;refine .z zpT (.z zm (.bif (t':=39) rfl (fun QY=>?_) (fun QY=>?_)))
     ·refine .T (.z (zfa dV) (.T (.y hs (zld aj) (.T (.o (.call gQ rfl (a8 hs) ?_))))));rintro _ w ⟨rfl,hs⟩;refine .z zpT (.z zm (.bif (t':=44) rfl (fun Ic=>?_) (fun Ic=>?_)))
      ·refine .T (.z (zfa dI) (.T (.y hs (zld aj) (.T (.o (.call gQ rfl (a8 hs) ?_))))));rintro _ w ⟨rfl,hs⟩;refine .z zpT (.zn zg (.ret (Fin.aW CQ rfl ?_)));first
       |exact ⟨false,rfl,⟨fun h=>(by cases h),fun h=>(by obtain ⟨g1,g2,g3,g4,g5,g6,g7⟩:=h;simp_all;done)⟩,hs.out⟩
       |exact ⟨_,rfl,⟨fun h=>⟨by simp_all,by simp_all,by simp_all,by simp_all,by simp_all,by simp_all,by simpa using h⟩,fun h=>by simpa using h.day⟩,hs.out⟩
      ·refine .Fs 3 39 true (.z zpF (.zn zg (.ret (Fin.aW CQ rfl ?_))));first
       |exact ⟨false,rfl,⟨fun h=>(by cases h),fun h=>(by obtain ⟨g1,g2,g3,g4,g5,g6,g7⟩:=h;simp_all;done)⟩,hs.out⟩
       |exact ⟨_,rfl,⟨fun h=>⟨by simp_all,by simp_all,by simp_all,by simp_all,by simp_all,by simp_all,by simpa using h⟩,fun h=>by simpa using h.day⟩,hs.out⟩
     ·refine .Fs 3 34 true (.z zpF (.z zm (.Fs 3 39 true (.z zpF (.zn zg (.ret (Fin.aW CQ rfl ?_)))))));first
      |exact ⟨false,rfl,⟨fun h=>(by cases h),fun h=>(by obtain ⟨g1,g2,g3,g4,g5,g6,g7⟩:=h;simp_all;done)⟩,hs.out⟩
      |exact ⟨_,rfl,⟨fun h=>⟨by simp_all,by simp_all,by simp_all,by simp_all,by simp_all,by simp_all,by simpa using h⟩,fun h=>by simpa using h.day⟩,hs.out⟩
    ·refine .Fs 6 26 true (.z zpF (.z zm (.Fs 3 34 true (.z zpF (.z zm (.Fs 3 39 true (.z zpF (.zn zg (.ret (Fin.aW CQ rfl ?_))))))))));first
     |exact ⟨false,rfl,⟨fun h=>(by cases h),fun h=>(by obtain ⟨g1,g2,g3,g4,g5,g6,g7⟩:=h;simp_all;done)⟩,hs.out⟩
     |exact ⟨_,rfl,⟨fun h=>⟨by simp_all,by simp_all,by simp_all,by simp_all,by simp_all,by simp_all,by simpa using h⟩,fun h=>by simpa using h.day⟩,hs.out⟩
   ·refine .Fs 3 21 true (.z zpF (.z zm (.Fs 6 26 true (.z zpF (.z zm (.Fs 3 34 true (.z zpF (.z zm (.Fs 3 39 true (.z zpF (.zn zg (.ret (Fin.aW CQ rfl ?_)))))))))))));first
    |exact ⟨false,rfl,⟨fun h=>(by cases h),fun h=>(by obtain ⟨g1,g2,g3,g4,g5,g6,g7⟩:=h;simp_all;done)⟩,hs.out⟩
    |exact ⟨_,rfl,⟨fun h=>⟨by simp_all,by simp_all,by simp_all,by simp_all,by simp_all,by simp_all,by simpa using h⟩,fun h=>by simpa using h.day⟩,hs.out⟩
  ·refine .Fs 7 12 true (.z zpF (.z zm (.Fs 3 21 true (.z zpF (.z zm (.Fs 6 26 true (.z zpF (.z zm (.Fs 3 34 true (.z zpF (.z zm (.Fs 3 39 true (.z zpF (.zn zg (.ret (Fin.aW CQ rfl ?_))))))))))))))));first
   |exact ⟨false,rfl,⟨fun h=>(by cases h),fun h=>(by obtain ⟨g1,g2,g3,g4,g5,g6,g7⟩:=h;simp_all;done)⟩,hs.out⟩
   |exact ⟨_,rfl,⟨fun h=>⟨by simp_all,by simp_all,by simp_all,by simp_all,by simp_all,by simp_all,by simpa using h⟩,fun h=>by simpa using h.day⟩,hs.out⟩
 ·refine .Fs 7 3 true (.z zpF (.z zm (.Fs 7 12 true (.z zpF (.z zm (.Fs 3 21 true (.z zpF (.z zm (.Fs 6 26 true (.z zpF (.z zm (.Fs 3 34 true (.z zpF (.z zm (.Fs 3 39 true (.z zpF (.zn zg (.ret (Fin.aW CQ rfl ?_)))))))))))))))))));first
  |exact ⟨false,rfl,⟨fun h=>(by cases h),fun h=>(by obtain ⟨g1,g2,g3,g4,g5,g6,g7⟩:=h;simp_all;done)⟩,hs.out⟩
  |exact ⟨_,rfl,⟨fun h=>⟨by simp_all,by simp_all,by simp_all,by simp_all,by simp_all,by simp_all,by simpa using h⟩,fun h=>by simpa using h.day⟩,hs.out⟩
theorem oO{w:World}{c:Cmp}(hs:St H w σ):
  aaq 293 [.agg #[I c.src,I c.tape,I c.fr,I c.to,I c.lo,I c.hi]] w fun v w'=>∃b:Bool,v= .bool b∧(b=true↔qH c)∧St H w' σ:=by
 refine Cl.o func293 ntmps293 ag1 ?_;refine .af (.bx hs fun b1 w hs=>?_);refine .zn zg (.af (.z (zfa fm) (.y hs (zld aj) (.o (.call call101 rfl (gZ hs) ?_)))));rintro _ w ⟨rfl,hs⟩;refine .z zm (.bif (t':=6) rfl (fun IY=>?_) (fun IY=>?_))
 ·refine .T (.z (zfa iW) (.T (.y hs (zld aj) (.T (.o (.call gQ rfl (a8 hs) ?_))))));rintro _ w ⟨rfl,hs⟩;refine .z zpT (.z zm (.bif (t':=11) rfl (fun tc=>?_) (fun tc=>?_)))
  ·refine .T (.z (zfa gB) (.T (.y hs (zld aj) (.T (.z (zfa fk) (.T (.y hs (zld aj) (.T (.o (.call gQ rfl (a8 hs) ?_))))))))));rintro _ w ⟨rfl,hs⟩;refine .z zpT (.z zm (.bif (t':=18) rfl (fun FI=>?_) (fun FI=>?_)))
   ·refine .T (.z (zfa fk) (.T (.y hs (zld aj) (.T (.o (.call gQ rfl (a8 hs) ?_))))));rintro _ w ⟨rfl,hs⟩;refine .z zpT (.z zm (.bif (t':=23) rfl (fun FH=>?_) (fun FH=>?_)))
    ·refine .T (.z (zfa gA) (.T (.y hs (zld aj) (.T (.z (zfa fj) (.T (.y hs (zld aj) (.T (.o (.call gQ rfl (a8 hs) ?_))))))))));rintro _ w ⟨rfl,hs⟩;refine .z zpT (.z zm (.bif (t':=30) rfl (fun KF=>?_) (fun KF=>?_)))
     ·refine .T (.z (zfa fj) (.T (.y hs (zld aj) (.T (.o (.call gQ rfl (a8 hs) ?_))))));rintro _ w ⟨rfl,hs⟩;refine .z zpT (.zn zg (.ret (Fin.aW N7 rfl ?_)));first
      |exact ⟨false,rfl,⟨fun h=>(by cases h),fun h=>(by obtain ⟨g1,g2,g3,g4,g5,g6⟩:=h;simp_all;omega)⟩,hs.out⟩
      |exact ⟨false,rfl,⟨fun h=>(by cases h),fun h=>(by obtain ⟨g1,g2,g3,g4,g5,g6⟩:=h;simp_all;done)⟩,hs.out⟩
      |exact ⟨_,rfl,⟨fun h=>⟨by simp_all,by simp_all,by simp_all,by simp_all,by simp_all,(by simpa using h:_∧_).2⟩,fun h=>by have:=h.lo;have:=h.hi;simp;omega⟩,hs.out⟩
     ·refine .Fs 3 27 true (.z zpF (.zn zg (.ret (Fin.aW N7 rfl ?_))));first
      |exact ⟨false,rfl,⟨fun h=>(by cases h),fun h=>(by obtain ⟨g1,g2,g3,g4,g5,g6⟩:=h;simp_all;omega)⟩,hs.out⟩
      |exact ⟨false,rfl,⟨fun h=>(by cases h),fun h=>(by obtain ⟨g1,g2,g3,g4,g5,g6⟩:=h;simp_all;done)⟩,hs.out⟩
      |exact ⟨_,rfl,⟨fun h=>⟨by simp_all,by simp_all,by simp_all,by simp_all,by simp_all,(by simpa using h:_∧_).2⟩,fun h=>by have:=h.lo;have:=h.hi;simp;omega⟩,hs.out⟩
    ·refine .Fs 5 20 true (.z zpF (.z zm (.Fs 3 27 true (.z zpF (.zn zg (.ret (Fin.aW N7 rfl ?_)))))));first
     |exact ⟨false,rfl,⟨fun h=>(by cases h),fun h=>(by obtain ⟨g1,g2,g3,g4,g5,g6⟩:=h;simp_all;omega)⟩,hs.out⟩
     |exact ⟨false,rfl,⟨fun h=>(by cases h),fun h=>(by obtain ⟨g1,g2,g3,g4,g5,g6⟩:=h;simp_all;done)⟩,hs.out⟩
     |exact ⟨_,rfl,⟨fun h=>⟨by simp_all,by simp_all,by simp_all,by simp_all,by simp_all,(by simpa using h:_∧_).2⟩,fun h=>by have:=h.lo;have:=h.hi;simp;omega⟩,hs.out⟩
   ·refine .Fs 3 15 true (.z zpF (.z zm (.Fs 5 20 true (.z zpF (.z zm (.Fs 3 27 true (.z zpF (.zn zg (.ret (Fin.aW N7 rfl ?_))))))))));first
    |exact ⟨false,rfl,⟨fun h=>(by cases h),fun h=>(by obtain ⟨g1,g2,g3,g4,g5,g6⟩:=h;simp_all;omega)⟩,hs.out⟩
    |exact ⟨false,rfl,⟨fun h=>(by cases h),fun h=>(by obtain ⟨g1,g2,g3,g4,g5,g6⟩:=h;simp_all;done)⟩,hs.out⟩
    |exact ⟨_,rfl,⟨fun h=>⟨by simp_all,by simp_all,by simp_all,by simp_all,by simp_all,(by simpa using h:_∧_).2⟩,fun h=>by have:=h.lo;have:=h.hi;simp;omega⟩,hs.out⟩
  ·refine .Fs 5 8 true (.z zpF (.z zm (.Fs 3 15 true (.z zpF (.z zm (.Fs 5 20 true (.z zpF (.z zm (.Fs 3 27 true (.z zpF (.zn zg (.ret (Fin.aW N7 rfl ?_)))))))))))));first
   |exact ⟨false,rfl,⟨fun h=>(by cases h),fun h=>(by obtain ⟨g1,g2,g3,g4,g5,g6⟩:=h;simp_all;omega)⟩,hs.out⟩
   |exact ⟨false,rfl,⟨fun h=>(by cases h),fun h=>(by obtain ⟨g1,g2,g3,g4,g5,g6⟩:=h;simp_all;done)⟩,hs.out⟩
   |exact ⟨_,rfl,⟨fun h=>⟨by simp_all,by simp_all,by simp_all,by simp_all,by simp_all,(by simpa using h:_∧_).2⟩,fun h=>by have:=h.lo;have:=h.hi;simp;omega⟩,hs.out⟩
 ·refine .Fs 3 3 true (.z zpF (.z zm (.Fs 5 8 true (.z zpF (.z zm (.Fs 3 15 true (.z zpF (.z zm (.Fs 5 20 true (.z zpF (.z zm (.Fs 3 27 true (.z zpF (.zn zg (.ret (Fin.aW N7 rfl ?_))))))))))))))));first
  |exact ⟨false,rfl,⟨fun h=>(by cases h),fun h=>(by obtain ⟨g1,g2,g3,g4,g5,g6⟩:=h;simp_all;omega)⟩,hs.out⟩
  |exact ⟨false,rfl,⟨fun h=>(by cases h),fun h=>(by obtain ⟨g1,g2,g3,g4,g5,g6⟩:=h;simp_all;done)⟩,hs.out⟩
  |exact ⟨_,rfl,⟨fun h=>⟨by simp_all,by simp_all,by simp_all,by simp_all,by simp_all,(by simpa using h:_∧_).2⟩,fun h=>by have:=h.lo;have:=h.hi;simp;omega⟩,hs.out⟩
theorem nk{w:World}{vst vwa:Value}(hs:St H w σ)(h1:RI H vst s.st)(h2:RI H vwa s.wa)(hb:s.st.length≤1000∧s.wa.length≤1000):
  aaq 320 [.agg #[I s.id,I s.src,vst,vwa,I s.al,I s.up]] w fun v w'=>v=I (s.many:Int)∧St H w' σ:=by
 obtain ⟨ast,cst,rfl⟩:=RI.shape h1;obtain ⟨awa,cwa,rfl⟩:=RI.shape h2;have hm:=pv (a:=(s.st.length:Int)) (b:=(s.wa.length:Int)) (A:=1000) (B:=1000) ak ak;refine Cl.o func320 ntmps320 ag1 ?_;refine .af (.bx hs fun b1 w hs=>?_);exact .zn zg (.af (.z (zfa bh) (.y hs (zld aC) (.z (bT ai) (.z (zfa aV) (.y hs (zld aC) (.z (bT ai) (.z oq (.zn zg (.ret (Fin.aW results320 rfl ⟨by unfold Spc.many;rw [Int.natCast_mul],hs.out⟩)))))))))))
theorem qo{w:World}{vst vwa:Value}{b:Int}(hs:St H w σ)(h2:RI H vwa s.wa)(hb:s.wa.length≤1000)(ha: -1000≤a∧a≤1000)(hb': -1000≤b∧b≤1000):
  aaq 336 [.agg #[I s.id,I s.src,vst,vwa,I s.al,I s.up],I a,I b] w fun v w'=>v=I (1+a*s.wa.length+b)∧St H w' σ:=by
 obtain ⟨awa,cwa,rfl⟩:=RI.shape h2;have hm:=pv (a:=a) (b:=(s.wa.length:Int)) (A:=1000) (B:=1000) ak ak;refine Cl.o func336 ntmps336 ag3 ?_;refine .af (.bx hs fun b3 w hs=>?_);exact .zn zg (.af (.z zm (.z (zfa aV) (.y hs (zld aC) (.z (bT ai) (.z oq (.z cC (.z zm (.z cC (.zn zg (.ret (Fin.aW results336 rfl ⟨rfl,hs.out⟩))))))))))))
theorem jc{w:World}{r:Rdg}(hs:St H w σ):
  aaq 330 [.agg #[I r.src,I r.st,I r.wa,I r.val,I r.tol,I r.tape,I r.day]] w fun v w'=>v= .agg #[I r.tape,I r.day]∧St H w' σ:=by
 refine Cl.o func330 ntmps330 ag1 ?_;refine .af (.bx hs fun b1 w hs=>?_);refine .o (.alloc hs ue rfl fun b2 w hs=>?_);refine .nil (.af (.z (zfa dV) (.y hs (zld aj) (.z (zfa dI) (.y hs (zld aj) (.z (zbd [_,_] ik) (.o (.aL (vs:=[_,_]) hs rfl rfl bU fun w hs=>?_))))))));exact .nil (.ret (Fin.ki [] [] hs fun w hs=>⟨_,results1 results330 (dK (vs:=[_,_]) hs rfl iq bU),rfl,hs.out⟩))
theorem np{w:World}{b:Int}(hs:St H w σ)(ha:0≤a∧a≤100000)(hb:0≤b∧b≤100000):
  aaq 332 [I a,I b] w fun v w'=>v=I (kT a b)∧St H w' σ:=by
 have hm:=pv (a:=a) (b:=b) (A:=100000) (B:=100000) ak ak;have h0:=Int.mul_nonneg ha.1 hb.1;have RV:0≤(a*b+999).tdiv 1000:=Int.tdiv_nonneg ak ak;have OK:(a*b+999).tdiv 1000≤a*b+999:=by rw [Int.tdiv_eq_ediv_of_nonneg ak];omega
 refine Cl.o func332 ntmps332 ag2 ?_;exact .af (.zn zg (.af (.z zm (.z zm (.z oq (.z cC (.q hs (Gh rfl rfl ak ak) (.z LW (.zn zg (.ret (Fin.aW results332 rfl ⟨rfl,hs⟩)))))))))))
def CE(s:Spc):List (List Value):=(List.range s.many).map fun p=>[Value.agg #[I ((p/s.wa.length:Nat):Int),I ((p%s.wa.length:Nat):Int),I ((p+1:Nat):Int)]]
theorem eF(s:Spc):(CE s).length=s.many:=by simp [CE]
theorem qj{p:Nat}(h:p<(CE s).length):(CE s)[p]=[Value.agg #[I ((p/s.wa.length:Nat):Int),I ((p%s.wa.length:Nat):Int),I ((p+1:Nat):Int)]]:=by simp [CE]
theorem sO{vst vwa:Value}(hb:Row H b [I s.id,I s.src,vst,vwa,I s.al,I s.up])(h1:RI H vst s.st)(h2:RI H vwa s.wa)(IW:s.st.length≤1000∧s.wa.length≤1000):
  Iter Tryz.prog 106 [Pt b] H (CE s):=by
 intro ly II Ix EM _ hy H0 Hg σf w hle D8 hs;obtain ⟨ast,cst,rfl⟩:=RI.shape h1;obtain ⟨awa,cwa,rfl⟩:=RI.shape h2;have g2:cellAt H0 b 2=some (.slice ast s.st.length cst):=cellAt.mono (hb.at 2) hle;have g3:cellAt H0 b 3=some (.slice awa s.wa.length cwa):=cellAt.mono (hb.at 3) hle;have hm:s.many≤1000000:=Nat.mul_le_mul IW.1 IW.2;refine Cl.o func106 ntmps106 ag2 ?_;refine .af (.zn zg (.af (.z (zfa bh) (.y hs (zld aC) (.z (bT ai) (.zn zm (.for (N:=s.st.length) (J:=fun i fr w=>fr=[(3,I ((i*s.wa.length:Nat):Int)),(0,.func (.yield ly) #[] #[]),(1,Pt b)]∧∃H1 σb,HLe H H1∧HLe H0 H1∧II (i*s.wa.length) H1 σb∧St H1 w (σb++σf)) ak ?_ ?_ ?_)))))))
 ·exact .mk ⟨by rw [Nat.zero_mul],H0,Hg,hle,HLe.refl _,by rw [Nat.zero_mul];exact D8,hs⟩
 ·rintro i fr w hi ⟨rfl,H1,σb,az,fA,hI,hs⟩;have h23:=cellAt.mono g3 fA;refine .block (.af (.z zm (.zn zg (.af (.z (zfa aV) (.y hs (zld aC) (.z (bT ai) (.zn zm (.for (N:=s.wa.length) (J:=fun k fr w=>fr=[(3,I ((i*s.wa.length+k:Nat):Int)),(4,I (i:Int)),(9,I (i:Int)),(8,I (s.st.length:Int)),(0,.func (.yield ly) #[] #[]),(1,Pt b)]∧∃H3 σb,HLe H1 H3∧II (i*s.wa.length+k) H3 σb∧St H3 w (σb++σf)) ak ?_ ?_ ?_)))))))))
  ·exact .mk ⟨rfl,H1,σb,HLe.refl _,hI,hs⟩
  ·rintro k fr w hk ⟨rfl,H3,LV,bA,KR,hs⟩;obtain ⟨d1,d2⟩:=Sj (nw:=s.wa.length) (i:=i) (k:=k) hk;have fU:=Zb hi hk;refine .block (.af (.z zm (.zn zg (.af (.z zm (.z cC (.zn zg (.af (.z zm (.z zm (.z zm (.z zm (.z (zbd [_,_,_] tH) ?_)))))))))))));have z7:i*s.wa.length+k<(CE s).length:=by rw [eF];exact fU
   have BL:=hy (i*s.wa.length+k) z7 H3 LV σf w (az.trans bA) KR hs;rw [qj z7,d1,d2,show ((i*s.wa.length+k+1:Nat):Int)=((i*s.wa.length+k:Nat):Int)+1 by omega] at BL;refine .o (.yield rfl rfl BL ?_);rintro v25 w ⟨H5,σ5,g1,hs,g3'⟩;obtain ⟨bb,rfl,gT,gF⟩:=rb g3';refine .zn fF (.cond rfl (fun jo=>?_) (fun jo=>?_))
   ·exact .ret (rB (rT (rB (rB (rT (rB (Fin.Su results106 ⟨H5,σ5,fA.trans (bA.trans g1),hs,.inr (gF (by simpa using jo))⟩)))))))
   ·exact .skip (nB (nT (.mk ⟨rfl,H5,σ5,bA.trans g1,gT (by simpa using jo),hs⟩)))
  ·rintro fr w ⟨rfl,H3,LV,bA,KR,hs⟩;have e:i*s.wa.length+s.wa.length=(i+1)*s.wa.length:=by rw [Nat.add_mul,Nat.one_mul]
   rw [e] at KR ⊢;exact nB (nT (.mk ⟨rfl,H3,LV,az.trans bA,fA.trans bA,KR,hs⟩))
 ·rintro fr w ⟨rfl,H1,σb,az,fA,hI,hs⟩;exact Fin.zG results106 ⟨H1,σb,fA,hs,.inl (by rw [eF];exact hI)⟩
theorem gy{w:World}{vst vwa:Value}(hs:St H w σ)(h1:RI H vst s.st)(h2:RI H vwa s.wa)(IW:s.st.length≤1000∧s.wa.length≤1000):
  aaq 58 [.agg #[I s.id,I s.src,vst,vwa,I s.al,I s.up]] w fun u w'=>∃H1 b,HLe H H1∧u= .func (.func 106) #[] #[Pt b]∧Iter Tryz.prog 106 [Pt b] H1 (CE s)∧St H1 w' σ:=by
 obtain ⟨ast,cst,rfl⟩:=RI.shape h1;obtain ⟨awa,cwa,rfl⟩:=RI.shape h2;refine Cl.o func58 ntmps58 ag1 ?_;refine .af (.bx hs fun b1 w hs=>?_);refine .zn zg (.af (.q hs (dv (f:=[]) (c:=[_]) rfl rfl) (.zn zg (.ret (Fin.aW results58 rfl ?_)))));obtain ⟨H1,g1,g2,hs⟩:=hs.bG .here;exact ⟨H1,b1,g1,rfl,sO g2 (h1.mono g1) (h2.mono g1) IW,hs⟩
set_option maxRecDepth 100000 in
theorem xq:Tryz.prog.stoodInHeld 121=false:=by kernel_rfl
set_option maxRecDepth 100000 in
theorem xr:Tryz.prog.eqGuardType Tryz.prog.depth 121=false:=by kernel_rfl
theorem rp{w:World}{v:Value}{xs:List TD}(q:TD→Bool)(hs:St H w (en::σ))(hO:bE 2 v (tdc xs).flatten en)(hl:xs.length≤1000000)(hc:∀args w,(callFunc g args).run Tryz.prog w= .ok (.enter g args) w)
  (hp:∀w (t:TD),St H w (en::σ)→aaq g ([.agg #[I t.tape,I t.day]]++cap) w fun u w'=>u= .bool (q t)∧St H w' (en::σ)):
  aaq 339 [v,.func (.func g) #[] cap.toArray] w fun u w'=>∃i:Int,u=I i∧(0≤i↔∃x∈xs,q x=true)∧St H w' (en::σ):=by
 obtain ⟨a,c,rfl⟩:=hO.jx (rl xs) ak;rw [eb] at hO ⊢;refine Cl.o func339 ntmps339 ag2 ?_;refine .af (.zn zg (.seq (.af (.z zm (.z (bT bB) (.zn zm (.for (N:=xs.length) (J:=fun k fr w=>fr=[(1,.func (.func g) #[] cap.toArray),(0,.slice a xs.length c)]∧(∀j<k,∀y,xs[j]? =some y→¬q y=true)∧St H w (en::σ)) ak ?_ ?_ ?_)))))))
 ·exact .mk ⟨rfl,fun j hj=>by omega,hs⟩
 ·rintro k fr w hk ⟨rfl,ew,hs⟩;obtain ⟨x,hx⟩:=nth hk;obtain ⟨b,c',sp,hv,rfl,_⟩:=hO.Sd (rl xs) ak (by rw [eb];omega);rw [eb] at hv;cases hv
  refine .block (.af (.z zm (.zn zg (.af (.z zm (.z zm (.z zm (.z (wo bB bU) (.q hs (gY (vs:=x.c) rfl iq bU .here (sK (rl xs) (Jb hx) sp)) (.o (.jN (first:=[]) (cap:=cap) rfl rfl hc (hp _ x hs) ?_)))))))))));rintro _ w ⟨rfl,hs⟩;refine .nil (.cond rfl (fun dO=>?_) (fun dO=>?_))
  ·exact .af (.z zm (.zn zg (.ret (rB (rT (rB (rT (Fin.aW results339 rfl ⟨_,rfl,⟨fun _=>⟨x,List.mem_of_getElem? hx,dO⟩,fun _=>by omega⟩,hs⟩))))))))
  ·exact .skip (nB (nT (.mk ⟨rfl,eU ew hx (by simpa using dO),hs⟩)))
 ·rintro fr w ⟨rfl,ew,hs⟩;refine nT (.af (.zn zg (.ret (Fin.aW results339 rfl ?_))));exact ⟨_,rfl,⟨fun h=>by omega,fun ⟨x,h1,h2⟩=>by
   obtain ⟨j,hj⟩:=List.getElem?_of_mem h1;exact (ew j (List.getElem?_eq_some_iff.1 hj).1 x hj h2).elim⟩,hs⟩
theorem oM{w:World}{v:Value}{xs:List TD}(q:TD→Bool)(hs:St H w (en::σ))(hO:bE 2 v (tdc xs).flatten en)(hl:xs.length≤1000000)(hc:∀args w,(callFunc g args).run Tryz.prog w= .ok (.enter g args) w)
  (hp:∀w (t:TD),St H w (en::σ)→aaq g ([.agg #[I t.tape,I t.day]]++cap) w fun u w'=>u= .bool (q t)∧St H w' (en::σ)):
  aaq 328 [v,.func (.func g) #[] cap.toArray] w fun u w'=>∃b:Bool,u= .bool b∧(b=true↔∃x∈xs,q x=true)∧St H w' (en::σ):=by
 refine Cl.o func328 ntmps328 ag2 ?_;refine .af (.zn zg (.af (.z zm (.z zm (.o (.call call339 rfl (rp q hs hO hl hc hp) ?_))))));rintro _ w ⟨i,rfl,hi,hs⟩;exact .z zC (.zn zg (.ret (Fin.aW results328 rfl ⟨_,rfl,by simp only [decide_eq_true_eq];exact hi,hs⟩)))
theorem xU{w:World}{v:Value}{xs:List TD}(hs:St H w σ)(hr:RTd H v xs)(hl:xs.length≤1000000):
  aaq 335 [v,.agg #[I t.tape,I t.day]] w fun u w'=>u=I (lz xs t)∧St H w' σ:=by
 obtain ⟨a,c,rfl⟩:=RTd.shape hr;refine Cl.o func335 ntmps335 ag2 ?_;refine .af (.bx hs fun b3 w hs=>?_);refine .zn zg (.seq (.af (.z zm (.z (bT bB) (.zn zm (.for (N:=xs.length) (J:=fun k fr w=>fr=[(0,.slice a xs.length c),(3,Pt b3)]∧(∀j<k,∀y,xs[j]? =some y→¬y=t)∧St H w (.blk b3 [I t.tape,I t.day]::σ)) ak ?_ ?_ ?_))))))
 ·exact .mk ⟨rfl,fun j hj=>by omega,hs⟩
 ·rintro k fr w hk ⟨rfl,ew,hs⟩;obtain ⟨x,hx⟩:=nth hk;refine .block (.af (.z zm (.zn zg (.seq (.draw mix rfl hs fun w hs=>?_)))));refine .ys 0 rfl hs [_,_] iq bU ?_;refine .z 1 rfl zm ?_;refine .z 2 rfl zm ?_;refine .ixX (enc:=TD.c) (i:=3) hs rfl aF .none hr rfl rfl bB bU hx eu ?_;intro tZ o14 fq;refine .r (i:=4) hs rfl aF .none (bj (vs:=x.c) rfl iq bU fq) ?_;refine .z 5 rfl (sI xq xr lM (fun f hf=>by
   simp only [List.mem_cons,List.not_mem_nil,or_false] at hf
   rcases hf with rfl|rfl<;>exact ⟨by decide,aJ,aj⟩) rfl rfl) ?_
  refine .D hs (.cond rfl (fun dO=>?_) (fun dO=>?_))
  ·refine .af (.z zm (.zn zg (.ret (rB (rT (rB (rT (Fin.aW results335 rfl ?_))))))));have e:x=t:=L7.1 (by have:=of_decide_eq_true dO;exact ⟨this.1.symm,this.2.symm⟩);subst e;exact ⟨by rw [sz hx fun j hj h=>ew j hj _ h rfl],hs.tail⟩
  ·exact .skip (nB (nT (.mk ⟨rfl,eU ew hx (fun e=>by subst e;simp at dO),hs⟩)))
 ·rintro fr w ⟨rfl,ew,hs⟩;exact nT (.af (.zn zg (.ret (Fin.aW results335 rfl ⟨by rw [Bd ew],hs.tail⟩))))
theorem qp{w:World}{r:Rdg}(hs:St H w σ)(hb:Row H b r.c):
  aaq 329 [.agg #[I t.tape,I t.day],Pt b] w fun u w'=>u= .bool (decide (t=r.td))∧St H w' σ:=by
 have KM:bI H b 0 r.c:=hb.cells 0 r.c;refine Cl.o func329 ntmps329 ag2 ?_;refine .af (.bx hs fun b2 w hs=>?_);refine .zn zg (.seq (.draw mix rfl hs fun w hs=>?_));refine .ys 0 rfl hs [_,_] iq bU ?_;refine .ys 1 rfl hs [_,_,_,_,_,_,_] gP br ?_;refine .E 2 hs ?_;refine .call call330 rfl (jc hs) ?_;rintro _ w ⟨rfl,hs⟩;refine .go ?_;refine .z 3 rfl (sI xq xr lM (fun f hf=>by
  simp only [List.mem_cons,List.not_mem_nil,or_false] at hf
  rcases hf with rfl|rfl<;>exact ⟨by decide,aJ,aj⟩) rfl rfl) ?_
 refine .zw 4 rfl zg ?_;refine .D hs ?_;exact .ret (Fin.aW results329 rfl ⟨by congr 1;rw [decide_eq_decide];exact L7 (t:=t) (u:=r.td),hs.tail⟩)
set_option maxHeartbeats 1000000 in
theorem uC{w:World}{s:Srv}{vst vwa:Value}(hs:St H w σ)(hr:RRd H vr s.rs)(hl:s.rs.length≤1000000):
  aaq 313 [.agg #[I s.sp.id,I s.sp.src,vst,vwa,I s.sp.al,I s.sp.up,vr,vc]] w fun u w'=>∃H1 en,HLe H H1∧bE 2 u (tdc s.bN).flatten en∧St H1 w' (en::σ):=by
 obtain ⟨ar,cr,rfl⟩:=RRd.shape hr;refine Cl.o func313 ntmps313 ag1 ?_;refine .af (.bx hs fun b1 w hs=>?_);refine .zn zg (.af (.zn zg (.seq (.af (.z (zfa aS) (.y hs (zld eB) (.z (bT aT) (.zn zm (.for (N:=s.rs.length) (J:=fun k fr w=>∃vo en H1,fr=[(7,.slice ar s.rs.length cr),(3,vo)]∧HLe H H1∧bE 2 vo (tdc (aO (s.rs.take k))).flatten en∧St H1 w (en::σ)) ak ?_ ?_ ?_)))))))))
 ·exact .mk ⟨_,.nul,H,rfl,HLe.refl _,.nil 2 none,hs.tail.nul⟩
 ·rintro k fr w hk ⟨vo,en,H1,rfl,az,hO,hs⟩;obtain ⟨r,hx⟩:=nth hk;have DP:=ky hx;have xC:=lQ s.rs k ak;obtain ⟨ao,co,rfl⟩:=hO.jx (rl _) ak;rw [eb] at hO ⊢;refine .block (.af (.ixX (enc:=Rdg.c) hs (hr.mono az) rfl rfl aT br hx eu ?_));intro EU o11 wP;refine .q hs (bj (vs:=(Rdg.c r)) rfl gP br wP) (.o (.alloc hs ji rfl fun b5 w hs=>?_));refine .o (.aL (vs:=r.c) hs rfl rfl br fun w hs=>?_);obtain ⟨H2,aN,r5,hs⟩:=hs.bG (b:=b5) (c:=r.c) .here;have c5:bI H2 b5 0 r.c:=r5.cells 0 r.c;refine .nil (.af (.z zm (.q hs (dv (f:=[]) (c:=[_]) rfl rfl) (.o (.call call328 rfl (oM (g:=329) (cap:=[Pt b5]) (fun t=>decide (t=r.td)) hs hO ak call329 (fun w t hs=>qp hs r5)) ?_)))));rintro _ w ⟨Ll,rfl,D5,hs⟩;refine .zn fF (.cond rfl (fun dO=>?_) (fun dO=>?_))
  ·refine .region (.z zm (.q hs (bj (vs:=r.c) rfl gP br c5) (.o (.call call330 rfl (jc (r:=r) hs) ?_))));rintro _ w ⟨rfl,hs⟩;refine .o (.buildSlice (cells:=[_,_]) hs iC rfl rfl fun US w hs=>?_);refine .o (.append (ys:=r.td.c) hs eA rfl rfl hO (.own .here rfl rfl) (by simp [TD.c,Value.oneCell']) (fun l h=>by rw [a7 _ (rl _),eb] at h;omega) ?_);intro v21 en21 w gM hs;refine .zn zg (nB (nT ?_));have hn:r.td∉aO (s.rs.take k):=fun hm=>by
    rw [D5.2 ⟨_,hm,aU⟩] at dO;cases dO
   rw [←Bc,show aO (s.rs.take k)++[r.td]=aO (s.rs.take (k+1)) by rw [DP];unfold tK;rw [if_neg hn]] at gM;exact .mk ⟨_,_,H2,rfl,az.trans aN,gM,hs.sb⟩
  ·refine .skip (nB (nT ?_));have hm:r.td∈aO (s.rs.take k):=by
    obtain ⟨x,h1,h2⟩:=D5.1 (by simpa using dO);rw [←of_decide_eq_true h2];exact h1
   exact .mk ⟨_,_,H2,rfl,az.trans aN,by rw [DP];unfold tK;rw [if_pos hm];exact hO,hs⟩
 ·rintro fr w ⟨vo,en,H1,rfl,az,hO,hs⟩;rw [List.take_length] at hO;exact nT (.af (.z zm (.zn zg (.ret (Fin.aW results313 rfl ⟨H1,en,az,hO,hs⟩)))))
theorem sL{w:World}{s:Srv}{vst vwa:Value}(hs:St H w σ)(hr:RRd H vr s.rs)(hl:s.rs.length≤1000000):
  aaq 313 [.agg #[I s.sp.id,I s.sp.src,vst,vwa,I s.sp.al,I s.sp.up,vr,vc]] w fun u w'=>∃H1,HLe H H1∧RTd H1 u s.bN∧St H1 w' σ:=by
 refine (uC hs hr hl).mono ?_;rintro u w' ⟨H1,en,az,hO,hs⟩;have xC:=dq s.rs;have WD:s.bN.length≤1000000:=by unfold Srv.bN;omega
 obtain ⟨H2,aN,hR,hs⟩:=bE.bG (m:=2) hO (rl _) ak (by rw [eb];omega) hs .here;exact ⟨H2,az.trans aN,hR,hs⟩
theorem gE{w:World}{x0 x1 x2 x3 x4 x5 x6 x7 x8:Value}{b by_:Int}(hs:St H w (.blk bm [x0,x1,x2,x3,x4,x5,x6,x7,x8,vl]::en::σ))(hO:bE 4 vl (gO ls) en)(hl:ls.length≤100000):
  aaq 331 [Pt bm,I a,I b,I hi,I lo,I by_] w fun _ w'=>∃tU jn,bE 4 tU (gO (ls++two a b hi lo by_)) jn∧St H w' (.blk bm [x0,x1,x2,x3,x4,x5,x6,x7,x8,tU]::jn::σ):=by
 obtain ⟨al,ll,cl,rfl,h⟩:=hO.shape;refine Cl.of func331 rfl ntmps331 aU (dH (k:=0) rfl (dH (k:=1) rfl (dH (k:=2) rfl (dH (k:=3) rfl (dH (k:=4) rfl (dH (k:=5) rfl (Ar))))))) (.region (.z zm (.z zm (.z znc (.z (zfa jC) (.y hs (zld lg) (.z zm (.z zm (.z zm (.z zm (.z (zbd [_,_,_,_] dJ) (.z zm (.z zm (.z zm (.z zm (.z (zbd [_,_,_,_] dJ) (.o (.buildSlice (cells:=gO (two a b hi lo by_)) hs eC rfl aF fun Aq w hs=>?_))))))))))))))))));refine .o (.append (ys:=gO (two a b hi lo by_)) hs bY rfl rfl hO (.own .here rfl rfl) (l5 _) (fun l h=>by rw [eY] at h;omega) ?_);intro v28 en28 w gM hs;rw [←jh] at gM;obtain ⟨a28,l28,c28,rfl,h28⟩:=gM.shape;refine .z znc (.z (zfa jC) (.o (.store hs rfl rfl sizeOf99 fun w hs=>?_)));exact .nil (Fin.zG results331 ⟨_,_,gM,hs.sb⟩)
theorem lS{w:World}{vst vwa x6 x7 x8:Value}{j:Int}(hs:St H w σ)(hm:Mem σ (.blk bm [I s.id,I s.src,vst,vwa,I s.al,I s.up,x6,x7,x8,vl]))(h1:RI H vst s.st)(h2:RI H vwa s.wa)(hb:s.st.length≤1000∧s.wa.length≤1000)(hj: -1≤j∧j≤1000):
  aaq 333 [Pt bm,I j] w fun u w'=>u=I ((s.many:Int)+1+j)∧St H w' σ:=by
 have QF:s.many≤1000000:=Nat.mul_le_mul hb.1 hb.2;refine Cl.o func333 ntmps333 ag2 ?_;refine .af (.zn zg (.af (.z zm (.z znc (.z (zfa dd) (.z (zfa bq) (.q hs (gY (vs:=[I s.id,I s.src,vst,vwa,I s.al,I s.up]) rfl bC aM hm) (.o (.call call320 rfl (nk (s:=s) hs h1 h2 hb) ?_)))))))));rintro _ w ⟨rfl,hs⟩;exact .z cC (.z zm (.z cC (.zn zg (.ret (Fin.aW results333 rfl ⟨rfl,hs⟩)))))
theorem gx(h:fV s):s.st.length≤1000∧s.wa.length≤1000∧0<s.wa.length∧s.many≤63:=by
 have h1:=h.st.many;have h2:=h.wa.many;have h3:=h.wa.two;have:s.many≤9*7:=Nat.mul_le_mul h1 h2;omega
theorem rJ{w:World}{s:Srv}{vst vwa:Value}(hs:St H w (.blk bm [I s.sp.id,I s.sp.src,vst,vwa,I s.sp.al,I s.sp.up,vr,vc,vt,vl]::en::σ))(hk:MkK H s ts vst vwa vr vc vt)(hO:bE 4 vl (gO ls) en)(hl:ls.length≤10000)(bw:fV s.sp):
  aaq 314 [Pt bm] w fun _ w'=>∃H1 tU jn,HLe H H1∧bE 4 tU (gO (ls++dZ (tz s.sp) s.sp.wa.length s.sp.st.length)) jn∧St H1 w' (.blk bm [I s.sp.id,I s.sp.src,vst,vwa,I s.sp.al,I s.sp.up,vr,vc,vt,tU]::jn::σ):=by
 have sX:=gx bw;refine Cl.o func314 ntmps314 ag1 ?_;refine .af (.bx hs fun b1 w hs=>?_);refine .nil (.af (.y hs (zld PG) (.z znc (.z (zfa dd) (.z (zfa bq) (.y hs (zls [_,_,_,_,_,_] bC aM) (.o (.call call58 rfl (gy (s:=s.sp) hs hk.st hk.wa ⟨ak,ak⟩) ?_))))))));rintro _ w ⟨H1,ba,az,rfl,sq,hs⟩;refine .nil (.block ?_);refine .rangeFunc (gf:=106) (cap:=[Pt ba]) (xs:=CE s.sp) (σb:=[.blk bm [I s.sp.id,I s.sp.src,vst,vwa,I s.sp.al,I s.sp.up,vr,vc,vt,vl],en,.blk b1 [Pt bm]]) (σf:=σ) (hs.sb) trivial rfl sq call106 (fun x hx=>by
   simp only [CE,List.mem_map] at hx;obtain ⟨j,_,rfl⟩:=hx;rfl) rfl
  (I:=fun p H' σb=>∃vl en,σb=[.blk bm [I s.sp.id,I s.sp.src,vst,vwa,I s.sp.al,I s.sp.up,vr,vc,vt,vl],en,.blk b1 [Pt bm]]∧bE 4 vl (gO (ls++sS (tz s.sp) s.sp.wa.length p)) en) (Ix:=fun _ _ _=>False)
  (fun j _ _ σ g1 g2=>g2) (fun _ _ _ _ _ h=>h) ⟨vl,en,rfl,by rw [p8,List.append_nil];exact hO⟩ ?_ ?_ (fun D c H' σb w _ h _=>h.elim)
 ·rintro ly p hp H2 Cx zB w aN ⟨vl,en,rfl,hO⟩ hs ⟨rr,LH⟩;have HP:p<s.sp.many:=by rw [eF] at hp;exact hp
  have oz:=p9 (tz s.sp) (p:=p) sX.2.2.1;have GB:=kB (nX s.sp) sX.2.2.1 p;have fH:p/s.sp.wa.length<s.sp.st.length:=Nat.div_lt_of_lt_mul (by rw [Nat.mul_comm];exact HP);have OV:=Nat.mod_lt p sX.2.2.1;have TS:=Nat.div_add_mod p s.sp.wa.length;rw [Nat.mul_comm] at TS;have hu:(s.sp.u (p/s.sp.wa.length) (p%s.sp.wa.length):Int)=(p:Int)+1:=by unfold Spc.u;omega
  rw [qj hp];obtain ⟨al,ll,cl,rfl,vS⟩:=hO.shape;generalize p/s.sp.wa.length=i at*;generalize p%s.sp.wa.length=k at*;have Kk:=hk.mono (az.trans aN);refine .region (.o (.alloc hs EE rfl fun b2 w hs=>?_));refine .o (.aL (vs:=[_,_,_]) hs rfl rfl U5 fun w hs=>?_);refine .nil (nT ⟨H2,[.blk b2 [I (i:Int),I (k:Int),I ((p+1:Nat):Int)],.blk bm [I s.sp.id,I s.sp.src,vst,vwa,I s.sp.al,I s.sp.up,vr,vc,vt,.slice al ll cl],en,.blk b1 [Pt bm]],HLe.refl _,hs,?_⟩);rintro w zA - hs;refine .block (.draw mix rfl hs fun w hs=>?_);refine .y 0 rfl hs PG ?_;refine .z 1 rfl (zfa ef) ?_;refine .y 2 rfl hs aj ?_;refine .y 3 rfl hs PG ?_;refine .z 4 rfl znc ?_;refine .z 5 rfl (zfa dd) ?_;refine .z 6 rfl (zfa bq) ?_;refine .z 7 rfl (zfa cP) ?_;refine .y 8 rfl hs aj ?_;refine .E 9 hs ?_;refine .call call331 rfl (gE (ls:=ls++sS (tz s.sp) s.sp.wa.length p) (hs.sb:St H2 w (.blk bm _::en:: .blk b1 _::zA)) hO (by rw [List.length_append];omega)) ?_;rintro _ w ⟨vl3,en3,lq,hs⟩;rw [show two 0 ((p+1:Nat):Int) 20000 0 s.sp.src=tz s.sp i k by unfold tz;rw [hu];rfl,List.append_assoc,←oz] at lq;exact .go (.D hs (nB ⟨H2,_,HLe.refl _,hs,_,_,rfl,lq⟩))
 ·rintro D H2 Cx w aN ⟨vl,en,rfl,hO⟩ hs;rw [eF,show s.sp.many=s.sp.st.length*s.sp.wa.length from rfl,sR _ sX.2.2.1] at hO;exact nB (Fin.VQ [D] [] hs fun w hs=>⟨_,results0 results314,H2,vl,en,az.trans aN,hO,(hs.sb:St H2 w (.blk bm _::en::σ))⟩)
theorem wI{w:World}{s:Srv}{vst vwa:Value}(hs:St H w (.blk bm [I s.sp.id,I s.sp.src,vst,vwa,I s.sp.al,I s.sp.up,vr,vc,vt,vl]::en::σ))(hk:MkK H s ts vst vwa vr vc vt)(hO:bE 4 vl (gO ls) en)(hl:ls.length≤10000)(bw:fV s.sp):
  aaq 315 [Pt bm] w fun _ w'=>∃H1 tU jn,HLe H H1∧bE 4 tU (gO (ls++dZ (alL s.sp) s.sp.wa.length s.sp.st.length)) jn∧St H1 w' (.blk bm [I s.sp.id,I s.sp.src,vst,vwa,I s.sp.al,I s.sp.up,vr,vc,vt,tU]::jn::σ):=by
 have sX:=gx bw;obtain ⟨ast,cst,rfl⟩:=RI.shape hk.st;obtain ⟨awa,cwa,rfl⟩:=RI.shape hk.wa;refine Cl.o func315 ntmps315 ag1 ?_;refine .af (.bx hs fun b1 w hs=>?_);refine .nil (.af (.y hs (zld PG) (.z znc (.z (zfa dd) (.z (zfa bq) (.y hs (zls [_,_,_,_,_,_] bC aM) (.o (.alloc hs fR rfl fun b2 w hs=>?_))))))));refine .o (.aL (vs:=[_,_,_,_,_,_]) hs rfl rfl aM fun w hs=>?_);refine .nil (.af (.y hs (zls [_,_,_,_,_,_] bC aM) (.o (.call call58 rfl (gy (s:=s.sp) hs hk.st hk.wa ⟨ak,ak⟩) ?_))));rintro _ w ⟨H1,ba,az,rfl,sq,hs⟩;refine .nil (.block ?_);refine .rangeFunc (gf:=106) (cap:=[Pt ba]) (xs:=CE s.sp) (σb:=[.blk bm [I s.sp.id,I s.sp.src,.slice ast s.sp.st.length cst,.slice awa s.sp.wa.length cwa,I s.sp.al,I s.sp.up,vr,vc,vt,vl],en,.blk b1 [Pt bm],.blk b2 [I s.sp.id,I s.sp.src,.slice ast s.sp.st.length cst,.slice awa s.sp.wa.length cwa,I s.sp.al,I s.sp.up]]) (σf:=σ) (hs.sb) trivial rfl sq call106 (fun x hx=>by
   simp only [CE,List.mem_map] at hx;obtain ⟨j,_,rfl⟩:=hx;rfl) rfl
  (I:=fun p H' σb=>∃vl en,σb=[.blk bm [I s.sp.id,I s.sp.src,.slice ast s.sp.st.length cst,.slice awa s.sp.wa.length cwa,I s.sp.al,I s.sp.up,vr,vc,vt,vl],en,.blk b1 [Pt bm],.blk b2 [I s.sp.id,I s.sp.src,.slice ast s.sp.st.length cst,.slice awa s.sp.wa.length cwa,I s.sp.al,I s.sp.up]]∧bE 4 vl (gO (ls++sS (alL s.sp) s.sp.wa.length p)) en) (Ix:=fun _ _ _=>False)
  (fun j _ _ σ g1 g2=>g2) (fun _ _ _ _ _ h=>h) ⟨vl,en,rfl,by rw [p8,List.append_nil];exact hO⟩ ?_ ?_ (fun D c H' σb w _ h _=>h.elim)
 ·rintro ly p hp H2 Cx zB w aN ⟨vl,en,rfl,hO⟩ hs ⟨rr,LH⟩;have HP:p<s.sp.many:=by rw [eF] at hp;exact hp
  have oz:=p9 (alL s.sp) (p:=p) sX.2.2.1;have GB:=kB (sf s.sp) sX.2.2.1 p;have fH:p/s.sp.wa.length<s.sp.st.length:=Nat.div_lt_of_lt_mul (by rw [Nat.mul_comm];exact HP);have OV:=Nat.mod_lt p sX.2.2.1;have TS:=Nat.div_add_mod p s.sp.wa.length;rw [Nat.mul_comm] at TS;have hu:(s.sp.u (p/s.sp.wa.length) (p%s.sp.wa.length):Int)=(p:Int)+1:=by unfold Spc.u;omega
  rw [qj hp];obtain ⟨al,ll,cl,rfl,vS⟩:=hO.shape;generalize p/s.sp.wa.length=i at*;generalize p%s.sp.wa.length=k at*;have Kk:=hk.mono (az.trans aN);refine .region (.o (.alloc hs EE rfl fun b3 w hs=>?_));refine .o (.aL (vs:=[_,_,_]) hs rfl rfl U5 fun w hs=>?_);refine .nil (nT ⟨H2,[.blk b3 [I (i:Int),I (k:Int),I ((p+1:Nat):Int)],.blk bm [I s.sp.id,I s.sp.src,.slice ast s.sp.st.length cst,.slice awa s.sp.wa.length cwa,I s.sp.al,I s.sp.up,vr,vc,vt,.slice al ll cl],en,.blk b1 [Pt bm],.blk b2 [I s.sp.id,I s.sp.src,.slice ast s.sp.st.length cst,.slice awa s.sp.wa.length cwa,I s.sp.al,I s.sp.up]],HLe.refl _,hs,?_⟩);rintro w zA - hs;refine .block (.af (.z (zfa dj) (.y hs (zld aj) (.z cC (.z (zfa bh) (.y hs (zld aC) (.z (bT ai) (.zn fT (.bQ rfl (fun j9=>?_) (fun j9=>?_))))))))))
  ·refine .seq (.draw mix rfl hs fun w hs=>?_);refine .zw 0 rfl (zfa eh) ?_;refine .z 1 rfl (zfa nS) ?_;refine .y 2 rfl hs aj ?_;refine .z 3 rfl (zfa bh) ?_;refine .y 4 rfl hs aC ?_;refine .z 5 rfl (zfa dj) ?_;refine .y 6 rfl hs aj ?_;refine .z 7 rfl cC ?_;have QA:=bw.st.rise i ak;have RV:=bw.st.bd (i:=i) ak;have OK:=bw.st.bd (i:=i+1) ak;have Nu:=bw.al;refine .ixX (enc:=fun x=>[I x]) (i:=8) hs rfl aF .none Kk.st rfl rfl ai an (ck (l:=s.sp.st) (i:=(i+1)) ak) eu ?_;intro UR o28 l8;replace l8:=bI.one l8;refine .r (i:=9) hs rfl aF .none (aR rfl aj l8) ?_;refine .zw 10 rfl (zfa bh) ?_;refine .y 11 rfl hs aC ?_;refine .z 12 rfl (zfa dj) ?_;refine .y 13 rfl hs aj ?_;refine .ixX (enc:=fun x=>[I x]) (i:=14) hs rfl aF .none Kk.st rfl rfl ai an (ck (l:=s.sp.st) (i:=i) ak) eu ?_;intro UP o34 qu;replace qu:=bI.one qu;refine .r (i:=15) hs rfl aF .none (aR rfl aj qu) ?_;refine .zw 16 rfl jj (.E 17 hs ?_);refine .call call332 rfl (np hs ak ak) ?_;rintro _ w ⟨rfl,hs⟩;refine .go (.zw 18 rfl zg ?_);refine .D hs ?_;refine .region (.y hs (zld PG) (.z (zfa ef) (.y hs (zld aj) (.z (zfa ef) (.y hs (zld aj) (.z (zfa aV) (.y hs (zld aC) (.z (bT ai) (.z cC (.z zm (.z zm (.z (zfa cP) (.y hs (zld aj) (.o (.call call331 rfl (gE (ls:=ls++sS (alL s.sp) s.sp.wa.length p) (hs.sb:St H2 w (.blk bm _::en:: .blk b1 _:: .blk b2 _::zA)) hO (by rw [List.length_append];omega)) ?_)))))))))))))));rintro _ w ⟨vl3,en3,lq,hs⟩;have Qv:(s.sp.u (i+1) k:Int)=((p+1:Nat):Int)+(s.sp.wa.length:Int):=by unfold Spc.u at hu ⊢;rw [Nat.add_mul];omega
   rw [show two ((p+1:Nat):Int) (((p+1:Nat):Int)+(s.sp.wa.length:Int)) (kT s.sp.al (gi s.sp.st (i+1) - gi s.sp.st i)) (kT s.sp.al (gi s.sp.st (i+1) - gi s.sp.st i)) s.sp.src=alL s.sp i k by unfold alL;rw [if_pos ak,hu,Qv];rfl,List.append_assoc,←oz] at lq;exact .nil (nB ⟨H2,_,HLe.refl _,hs,_,_,rfl,lq⟩)
  ·refine .skip (nB ?_);rw [show alL s.sp i k=[] by unfold alL;rw [if_neg ak],List.append_nil] at oz;exact ⟨H2,_,HLe.refl _,(hs.sb:St H2 w (.blk bm _::en:: .blk b1 _:: .blk b2 _::zA)),_,_,rfl,by rw [oz];exact hO⟩
 ·rintro D H2 Cx w aN ⟨vl,en,rfl,hO⟩ hs;rw [eF,show s.sp.many=s.sp.st.length*s.sp.wa.length from rfl,sR _ sX.2.2.1] at hO;exact nB (Fin.VQ [D] [] hs fun w hs=>⟨_,results0 results315,H2,vl,en,az.trans aN,hO,(hs.sb:St H2 w (.blk bm _::en::σ))⟩)
theorem BE{w:World}{s:Srv}{vst vwa:Value}(hs:St H w (.blk bm [I s.sp.id,I s.sp.src,vst,vwa,I s.sp.al,I s.sp.up,vr,vc,vt,vl]::en::σ))(hk:MkK H s ts vst vwa vr vc vt)(hO:bE 4 vl (gO ls) en)(hl:ls.length≤10000)(bw:fV s.sp):
  aaq 316 [Pt bm] w fun _ w'=>∃H1 tU jn,HLe H H1∧bE 4 tU (gO (ls++dZ (upL s.sp) s.sp.wa.length s.sp.st.length)) jn∧St H1 w' (.blk bm [I s.sp.id,I s.sp.src,vst,vwa,I s.sp.al,I s.sp.up,vr,vc,vt,tU]::jn::σ):=by
 have sX:=gx bw;obtain ⟨ast,cst,rfl⟩:=RI.shape hk.st;obtain ⟨awa,cwa,rfl⟩:=RI.shape hk.wa;refine Cl.o func316 ntmps316 ag1 ?_;refine .af (.bx hs fun b1 w hs=>?_);refine .nil (.af (.y hs (zld PG) (.z znc (.z (zfa dd) (.z (zfa bq) (.y hs (zls [_,_,_,_,_,_] bC aM) (.o (.alloc hs fR rfl fun b2 w hs=>?_))))))));refine .o (.aL (vs:=[_,_,_,_,_,_]) hs rfl rfl aM fun w hs=>?_);refine .nil (.af (.y hs (zls [_,_,_,_,_,_] bC aM) (.o (.call call58 rfl (gy (s:=s.sp) hs hk.st hk.wa ⟨ak,ak⟩) ?_))));rintro _ w ⟨H1,ba,az,rfl,sq,hs⟩;refine .nil (.block ?_);refine .rangeFunc (gf:=106) (cap:=[Pt ba]) (xs:=CE s.sp) (σb:=[.blk bm [I s.sp.id,I s.sp.src,.slice ast s.sp.st.length cst,.slice awa s.sp.wa.length cwa,I s.sp.al,I s.sp.up,vr,vc,vt,vl],en,.blk b1 [Pt bm],.blk b2 [I s.sp.id,I s.sp.src,.slice ast s.sp.st.length cst,.slice awa s.sp.wa.length cwa,I s.sp.al,I s.sp.up]]) (σf:=σ) (hs.sb) trivial rfl sq call106 (fun x hx=>by
   simp only [CE,List.mem_map] at hx;obtain ⟨j,_,rfl⟩:=hx;rfl) rfl
  (I:=fun p H' σb=>∃vl en,σb=[.blk bm [I s.sp.id,I s.sp.src,.slice ast s.sp.st.length cst,.slice awa s.sp.wa.length cwa,I s.sp.al,I s.sp.up,vr,vc,vt,vl],en,.blk b1 [Pt bm],.blk b2 [I s.sp.id,I s.sp.src,.slice ast s.sp.st.length cst,.slice awa s.sp.wa.length cwa,I s.sp.al,I s.sp.up]]∧bE 4 vl (gO (ls++sS (upL s.sp) s.sp.wa.length p)) en) (Ix:=fun _ _ _=>False)
  (fun j _ _ σ g1 g2=>g2) (fun _ _ _ _ _ h=>h) ⟨vl,en,rfl,by rw [p8,List.append_nil];exact hO⟩ ?_ ?_ (fun D c H' σb w _ h _=>h.elim)
 ·rintro ly p hp H2 Cx zB w aN ⟨vl,en,rfl,hO⟩ hs ⟨rr,LH⟩;have HP:p<s.sp.many:=by rw [eF] at hp;exact hp
  have oz:=p9 (upL s.sp) (p:=p) sX.2.2.1;have GB:=kB (rk s.sp) sX.2.2.1 p;have fH:p/s.sp.wa.length<s.sp.st.length:=Nat.div_lt_of_lt_mul (by rw [Nat.mul_comm];exact HP);have OV:=Nat.mod_lt p sX.2.2.1;have TS:=Nat.div_add_mod p s.sp.wa.length;rw [Nat.mul_comm] at TS;have hu:(s.sp.u (p/s.sp.wa.length) (p%s.sp.wa.length):Int)=(p:Int)+1:=by unfold Spc.u;omega
  rw [qj hp];obtain ⟨al,ll,cl,rfl,vS⟩:=hO.shape;generalize p/s.sp.wa.length=i at*;generalize p%s.sp.wa.length=k at*;have Kk:=hk.mono (az.trans aN);refine .region (.o (.alloc hs EE rfl fun b3 w hs=>?_));refine .o (.aL (vs:=[_,_,_]) hs rfl rfl U5 fun w hs=>?_);refine .nil (nT ⟨H2,[.blk b3 [I (i:Int),I (k:Int),I ((p+1:Nat):Int)],.blk bm [I s.sp.id,I s.sp.src,.slice ast s.sp.st.length cst,.slice awa s.sp.wa.length cwa,I s.sp.al,I s.sp.up,vr,vc,vt,.slice al ll cl],en,.blk b1 [Pt bm],.blk b2 [I s.sp.id,I s.sp.src,.slice ast s.sp.st.length cst,.slice awa s.sp.wa.length cwa,I s.sp.al,I s.sp.up]],HLe.refl _,hs,?_⟩);rintro w zA - hs;refine .block (.af (.z (zfa cV) (.y hs (zld aj) (.z cC (.z (zfa aV) (.y hs (zld aC) (.z (bT ai) (.zn fT (.bQ rfl (fun j9=>?_) (fun j9=>?_))))))))))
  ·refine .seq (.draw mix rfl hs fun w hs=>?_);refine .zw 0 rfl (zfa eh) ?_;refine .z 1 rfl (zfa nR) ?_;refine .y 2 rfl hs aj ?_;refine .z 3 rfl (zfa aV) ?_;refine .y 4 rfl hs aC ?_;refine .z 5 rfl (zfa cV) ?_;refine .y 6 rfl hs aj ?_;refine .z 7 rfl cC ?_;have QA:=bw.wa.rise k ak;have RV:=bw.wa.bd (i:=k) ak;have OK:=bw.wa.bd (i:=k+1) ak;have Nu:=bw.up;refine .ixX (enc:=fun x=>[I x]) (i:=8) hs rfl aF .none Kk.wa rfl rfl ai an (ck (l:=s.sp.wa) (i:=(k+1)) ak) eu ?_;intro UR o28 l8;replace l8:=bI.one l8;refine .r (i:=9) hs rfl aF .none (aR rfl aj l8) ?_;refine .zw 10 rfl (zfa aV) ?_;refine .y 11 rfl hs aC ?_;refine .z 12 rfl (zfa cV) ?_;refine .y 13 rfl hs aj ?_;refine .ixX (enc:=fun x=>[I x]) (i:=14) hs rfl aF .none Kk.wa rfl rfl ai an (ck (l:=s.sp.wa) (i:=k) ak) eu ?_;intro UP o34 qu;replace qu:=bI.one qu;refine .r (i:=15) hs rfl aF .none (aR rfl aj qu) ?_;refine .zw 16 rfl jj (.E 17 hs ?_);refine .call call332 rfl (np hs ak ak) ?_;rintro _ w ⟨rfl,hs⟩;refine .go (.zw 18 rfl zg ?_);refine .D hs ?_;refine .region (.y hs (zld PG) (.z (zfa ef) (.y hs (zld aj) (.z (zfa ef) (.y hs (zld aj) (.z cC (.z zm (.z zm (.z (zfa cP) (.y hs (zld aj) (.o (.call call331 rfl (gE (ls:=ls++sS (upL s.sp) s.sp.wa.length p) (hs.sb:St H2 w (.blk bm _::en:: .blk b1 _:: .blk b2 _::zA)) hO (by rw [List.length_append];omega)) ?_))))))))))));rintro _ w ⟨vl3,en3,lq,hs⟩;have Qv:(s.sp.u i (k+1):Int)=((p+1:Nat):Int)+1:=by unfold Spc.u at hu ⊢;omega
   rw [show two ((p+1:Nat):Int) (((p+1:Nat):Int)+1) (kT s.sp.up (gi s.sp.wa (k+1) - gi s.sp.wa k)) (kT s.sp.up (gi s.sp.wa (k+1) - gi s.sp.wa k)) s.sp.src=upL s.sp i k by unfold upL;rw [if_pos ak,hu,Qv];rfl,List.append_assoc,←oz] at lq;exact .nil (nB ⟨H2,_,HLe.refl _,hs,_,_,rfl,lq⟩)
  ·refine .skip (nB ?_);rw [show upL s.sp i k=[] by unfold upL;rw [if_neg ak],List.append_nil] at oz;exact ⟨H2,_,HLe.refl _,(hs.sb:St H2 w (.blk bm _::en:: .blk b1 _:: .blk b2 _::zA)),_,_,rfl,by rw [oz];exact hO⟩
 ·rintro D H2 Cx w aN ⟨vl,en,rfl,hO⟩ hs;rw [eF,show s.sp.many=s.sp.st.length*s.sp.wa.length from rfl,sR _ sX.2.2.1] at hO;exact nB (Fin.VQ [D] [] hs fun w hs=>⟨_,results0 results316,H2,vl,en,az.trans aN,hO,(hs.sb:St H2 w (.blk bm _::en::σ))⟩)
theorem uF{w:World}{s:Srv}{vst vwa:Value}(hs:St H w (.blk bm [I s.sp.id,I s.sp.src,vst,vwa,I s.sp.al,I s.sp.up,vr,vc,vt,vl]::en::σ))(hk:MkK H s ts vst vwa vr vc vt)(hO:bE 4 vl (gO ls) en)(hl:ls.length≤10000)(bw:fV s.sp)(xC:ts.length≤100):
  aaq 317 [Pt bm] w fun _ w'=>∃H1 tU jn,HLe H H1∧bE 4 tU (gO (ls++AZ s.sp ts.length)) jn∧St H1 w' (.blk bm [I s.sp.id,I s.sp.src,vst,vwa,I s.sp.al,I s.sp.up,vr,vc,vt,tU]::jn::σ):=by
 have sX:=gx bw;obtain ⟨at_,ct,rfl⟩:=RTd.shape hk.ts;refine Cl.o func317 ntmps317 ag1 ?_;refine .af (.z zm (.z znc (.z (zfa ft) (.y hs (zld isAgg118) (.z (bT bB) (.zn zm (.for (N:=ts.length) (J:=fun j fr w=>fr=[(0,Pt bm)]∧∃vl en,bE 4 vl (gO (ls++AZ s.sp j)) en∧St H w (.blk bm [I s.sp.id,I s.sp.src,vst,vwa,I s.sp.al,I s.sp.up,vr,vc,.slice at_ ts.length ct,vl]::en::σ)) ak ?_ ?_ ?_)))))))
 ·exact .mk ⟨rfl,vl,en,by show bE 4 vl (gO (ls++[])) en;rw [List.append_nil];exact hO,hs⟩
 ·rintro j fr w hj ⟨rfl,vl,en,hO,hs⟩;have R1:=jf s.sp j;obtain ⟨al,ll,cl,rfl,vS⟩:=hO.shape;refine .block (.af (.z zm (.zn zg (.draw mix rfl hs fun w hs=>?_))));refine .zw 0 rfl zm ?_;refine .z 1 rfl zm ?_;refine .z 2 rfl zm ?_;refine .z 4 rfl zm ?_;refine .z 5 rfl znc ?_;refine .z 6 rfl (zfa dd) ?_;refine .z 7 rfl (zfa bq) ?_;refine .z 8 rfl (zfa cP) ?_;refine .y 9 rfl hs aj ?_;refine .E 3 hs ?_;refine .call call333 rfl (lS (s:=s.sp) hs .here hk.st hk.wa ⟨ak,ak⟩ ⟨ak,ak⟩) ?_;rintro _ w ⟨rfl,hs⟩;refine .go (.E 10 hs ?_);refine .call call331 rfl (gE (ls:=ls++AZ s.sp j) hs hO (by rw [List.length_append];omega)) ?_;rintro _ w ⟨vl3,en3,lq,hs⟩;rw [show (s.sp.many:Int)+1+(j:Int)=((s.sp.many+1+j:Nat):Int) by omega,List.append_assoc] at lq;exact .go (.D hs (nB (nT (.mk ⟨rfl,vl3,en3,lq,hs⟩))))
 ·rintro fr w ⟨rfl,vl,en,hO,hs⟩;exact Fin.zG results317 ⟨H,vl,en,HLe.refl _,hO,hs⟩
set_option maxHeartbeats 1000000 in
theorem rI{w:World}{s:Srv}{vst vwa:Value}(hs:St H w (.blk bm [I s.sp.id,I s.sp.src,vst,vwa,I s.sp.al,I s.sp.up,vr,vc,vt,vl]::en::σ))(hk:MkK H s ts vst vwa vr vc vt)(hO:bE 4 vl (gO ls) en)(hl:ls.length≤10000)(bw:fV s.sp)(xC:ts.length≤100)(tX:s.cs.length≤20)(hc:∀c∈s.cs,qH c){j0:Nat}(hj0:j0≤ts.length):
  aaq 334 [Pt bm,I (j0:Int)] w fun _ w'=>∃H1 tU jn,HLe H H1∧bE 4 tU (gO (ls++w5 s.sp ts s.cs j0 s.cs.length)) jn∧St H1 w' (.blk bm [I s.sp.id,I s.sp.src,vst,vwa,I s.sp.al,I s.sp.up,vr,vc,vt,tU]::jn::σ):=by
 have sX:=gx bw;obtain ⟨at_,ct,rfl⟩:=RTd.shape hk.ts;obtain ⟨ac,cc,rfl⟩:=RCm.shape hk.cs;refine Cl.o func334 ntmps334 ag2 ?_;refine .af (.z zm (.z znc (.z (zfa dd) (.z (zfa dm) (.y hs (zld qL) (.z (bT cH) (.zn zm (.for (N:=s.cs.length) (J:=fun i fr w=>fr=[(12,.slice ac s.cs.length cc),(0,Pt bm),(1,I (j0:Int))]∧∃vl en,bE 4 vl (gO (ls++w5 s.sp ts s.cs j0 i)) en∧St H w (.blk bm [I s.sp.id,I s.sp.src,vst,vwa,I s.sp.al,I s.sp.up,vr,.slice ac s.cs.length cc,.slice at_ ts.length ct,vl]::en::σ)) ak ?_ ?_ ?_))))))))
 ·exact .mk ⟨rfl,vl,en,by show bE 4 vl (gO (ls++[])) en;rw [List.append_nil];exact hO,hs⟩
 ·rintro i fr w hi ⟨rfl,vl,en,hO,hs⟩;obtain ⟨c,hx⟩:=nth hi;obtain ⟨g1,g2,g3,g4,g5,g6⟩:=hc c (List.mem_of_getElem? hx);have Xz:=jg s.sp ts s.cs j0 i;have Xy:i*(2*(ts.length - j0))≤20*(2*100):=Nat.mul_le_mul ak ak;refine .block (.af (.ixX (enc:=Cmp.c) hs hk.cs rfl rfl cH dC hx eu ?_));intro vC o16 dO;refine .q hs (bj (vs:=(Cmp.c c)) rfl vI dC dO) (.o (.alloc hs qI rfl fun b5 w hs=>?_));refine .o (.aL (vs:=c.c) hs rfl rfl dC fun w hs=>?_);replace hs:St H w (.blk bm [I s.sp.id,I s.sp.src,vst,vwa,I s.sp.al,I s.sp.up,vr,.slice ac s.cs.length cc,.slice at_ ts.length ct,vl]::en:: .blk b5 [I c.src,I c.tape,I c.fr,I c.to,I c.lo,I c.hi]::σ):=hs.sb;refine .nil (.af (.z zm (.zn zg (.block ?_))));refine .loop (fun j:Nat=>⟨62,[],[(6,I ((j0+j:Nat):Int)),(5,Pt b5),(14,I (i:Int)),(13,I (s.cs.length:Int)),(12,.slice ac s.cs.length cc),(0,Pt bm),(1,I (j0:Int))]⟩)
   (fun j w=>j0+j≤ts.length∧∃vl en,bE 4 vl (gO (ls++w5 s.sp ts s.cs j0 i++lY s.sp ts c j0 j)) en∧St H w (.blk bm [I s.sp.id,I s.sp.src,vst,vwa,I s.sp.al,I s.sp.up,vr,.slice ac s.cs.length cc,.slice at_ ts.length ct,vl]::en:: .blk b5 [I c.src,I c.tape,I c.fr,I c.to,I c.lo,I c.hi]::σ)) (fun j=>ts.length - (j0+j)) 0 bg
   ⟨ak,vl,en,by show bE 4 vl (gO (_++[])) en;rw [List.append_nil];exact hO,hs⟩ ?_
  clear hO hs;rintro j w ⟨hj,vl,en,hO,hs⟩;have BP:=mw s.sp ts c j0 j;obtain ⟨al,ll,cl,rfl,vS⟩:=hO.shape;refine .seq (.af (.z zm (.z zm (.z znc (.z (zfa ft) (.y hs (zld isAgg118) (.z (bT bB) (.zn fT (.bQ rfl (fun jq=>?_) (fun jq=>?_))))))))))
  ·refine .skip (nT (.seq (.block (.af (.z zm (.z znc (.z (zfa ft) (.y hs (zld isAgg118) (.z zm ?_)))))))));obtain ⟨t,ht⟩:=nth (l:=ts) (k:=j0+j) ak;have WI:=Oh ht;refine .ixX (enc:=TD.c) hs hk.ts rfl rfl bB bU ht eu ?_;intro b33 o33 s7;refine .q hs (bj (vs:=(TD.c t)) rfl iq bU s7) (.o (.alloc hs ue rfl fun b7 w hs=>?_));refine .o (.aL (vs:=t.c) hs rfl rfl bU fun w hs=>?_);change St _ _ (.blk b7 [I t.tape,I t.day]::_) at hs;refine .nil (.af (.z (zfa oB) (.y hs (zld aj) (.z (zfa iW) (.y hs (zld aj) (.z fW (.z zm (.jK (t':=40) rfl (fun KE=>?_) (fun KE=>?_)))))))))
   ·refine .T ?_;refine .z (zfa kW) (.T (.y hs (zld aj) (.T (.z (zfa gB) (.T (.y hs (zld aj) (.T (.z (zfa fk) (.T (.y hs (zld aj) (.T (.o (.call gQ rfl (a8 hs) ?_)))))))))))));rintro _ w ⟨rfl,hs⟩;refine .zn zpT (.cond rfl (fun BQ=>?_) (fun BQ=>?_))
    ·refine .draw mix rfl hs fun w hs=>?_
     refine .zw 0 rfl zm ?_;refine .z 1 rfl zm ?_;refine .z 2 rfl zm ?_;refine .z 4 rfl (zfa gA) ?_;refine .y 5 rfl hs aj ?_;refine .z 6 rfl Ob ?_;refine .z 7 rfl (zfa fj) ?_;refine .y 8 rfl hs aj ?_;refine .z 9 rfl (zfa fm) ?_;refine .y 10 rfl hs aj ?_;refine .E 3 hs ?_;refine .call call333 rfl (lS (s:=s.sp) hs (.there .here) hk.st hk.wa ⟨ak,ak⟩ ⟨ak,ak⟩) ?_;rintro _ w ⟨rfl,hs⟩;refine .go (.E 11 hs ?_);refine .call call331 rfl (gE (ls:=ls++w5 s.sp ts s.cs j0 i++lY s.sp ts c j0 j) (hs.tail:St H w (.blk bm _::en:: .blk b5 _::σ)) hO (by rw [List.length_append,List.length_append];omega)) ?_;rintro _ w ⟨vl3,en3,lq,hs⟩;refine .go (.D hs (nB (nT (.region (.z zm (.z cC (.zn zg (nT ?_))))))));have e:lY s.sp ts c j0 (j+1)=lY s.sp ts c j0 j++two 0 ((s.sp.many:Int)+1+((j0+j:Nat):Int)) (-c.lo) c.hi c.src:=by
      show _++mC c (td0 ts (j0+j)) _=_;rw [WI];unfold mC;rw [if_pos (by simp at BQ;omega)];rw [show ((s.sp.many+1+(j0+j):Nat):Int)=(s.sp.many:Int)+1+((j0+j:Nat):Int) by omega]
     rw [List.append_assoc _ (lY _ _ _ _ _),←e] at lq;exact ⟨j+1,.dw rfl (by simp;omega) bg,⟨ak,vl3,en3,lq,hs⟩,ak⟩
    ·refine .skip (nB (nT (.region (.z zm (.z cC (.zn zg (nT ?_)))))));have e:lY s.sp ts c j0 (j+1)=lY s.sp ts c j0 j:=by
      show _++mC c (td0 ts (j0+j)) _=_;rw [WI];unfold mC;rw [if_neg (by simp at BQ;omega),List.append_nil]
     exact ⟨j+1,.dw rfl (by simp;omega) bg,⟨ak,_,en,by rw [e];exact hO,hs.tail⟩,ak⟩
   ·refine .Fs 7 5 true (.zn zpF (.cF (.skip (nB (nT (.region (.z zm (.z cC (.zn zg (nT ?_))))))))));have e:lY s.sp ts c j0 (j+1)=lY s.sp ts c j0 j:=by
     show _++mC c (td0 ts (j0+j)) _=_;rw [WI];unfold mC;rw [if_neg ak,List.append_nil]
    exact ⟨j+1,.dw rfl (by simp;omega) bg,⟨ak,_,en,by rw [e];exact hO,hs.tail⟩,ak⟩
  ·refine .exit (xT (xT (xB (nB (nT ?_)))));obtain rfl:j=ts.length - j0:=by omega
   rw [List.append_assoc,show w5 s.sp ts s.cs j0 i++lY s.sp ts c j0 (ts.length - j0)=w5 s.sp ts s.cs j0 (i+1) by rw [←Lc hx];rfl] at hO;exact .mk ⟨rfl,_,en,hO,hs.sb⟩
 ·rintro fr w ⟨rfl,vl,en,hO,hs⟩;exact Fin.zG results334 ⟨H,vl,en,HLe.refl _,hO,hs⟩
theorem oP{w:World}{s:Srv}{vst vwa:Value}(hs:St H w (.blk bm [I s.sp.id,I s.sp.src,vst,vwa,I s.sp.al,I s.sp.up,vr,vc,vt,vl]::en::σ))(hk:MkK H s ts vst vwa vr vc vt)(hO:bE 4 vl (gO ls) en)(hl:ls.length≤10000)(bw:fV s.sp)(xC:ts.length≤100)(tX:s.cs.length≤20)(hc:∀c∈s.cs,qH c):
  aaq 318 [Pt bm] w fun _ w'=>∃H1 tU jn,HLe H H1∧bE 4 tU (gO (ls++w5 s.sp ts s.cs 0 s.cs.length)) jn∧St H1 w' (.blk bm [I s.sp.id,I s.sp.src,vst,vwa,I s.sp.al,I s.sp.up,vr,vc,vt,tU]::jn::σ):=by
 refine Cl.o func318 ntmps318 ag1 ?_;refine .region (.z zm (.o (.call call334 rfl (rI (s:=s) (ts:=ts) (j0:=0) hs hk hO hl bw xC tX hc ak) ?_)));rintro _ w hs;exact .nil (Fin.zG results318 hs)
set_option maxHeartbeats 1000000 in
theorem rH{w:World}{s:Srv}{vst vwa:Value}(hs:St H w (.blk bm [I s.sp.id,I s.sp.src,vst,vwa,I s.sp.al,I s.sp.up,vr,vc,vt,vl]::en::σ))(hk:MkK H s ts vst vwa vr vc vt)(hO:bE 4 vl (gO ls) en)(hl:ls.length≤10000)(bw:fV s.sp)(xC:ts.length≤100)(EL:s.rs.length≤60)(hr:∀r∈s.rs,k8 s.sp r)(s4:∀r∈s.rs,r.td∈ts):
  aaq 319 [Pt bm] w fun _ w'=>∃H1 tU jn,HLe H H1∧bE 4 tU (gO (ls++yi s.sp ts s.rs s.rs.length)) jn∧St H1 w' (.blk bm [I s.sp.id,I s.sp.src,vst,vwa,I s.sp.al,I s.sp.up,vr,vc,vt,tU]::jn::σ):=by
 have sX:=gx bw;obtain ⟨at_,ct,rfl⟩:=RTd.shape hk.ts;obtain ⟨ar,cr,rfl⟩:=RRd.shape hk.rs;refine Cl.o func319 ntmps319 ag1 ?_;refine .af (.z zm (.z znc (.z (zfa dd) (.z (zfa aS) (.y hs (zld eB) (.z (bT aT) (.zn zm (.for (N:=s.rs.length) (J:=fun i fr w=>fr=[(9,.slice ar s.rs.length cr),(0,Pt bm)]∧∃vl en,bE 4 vl (gO (ls++yi s.sp ts s.rs i)) en∧St H w (.blk bm [I s.sp.id,I s.sp.src,vst,vwa,I s.sp.al,I s.sp.up,.slice ar s.rs.length cr,vc,.slice at_ ts.length ct,vl]::en::σ)) ak ?_ ?_ ?_))))))))
 ·exact .mk ⟨rfl,vl,en,by show bE 4 vl (gO (ls++[])) en;rw [List.append_nil];exact hO,hs⟩
 ·rintro i fr w hi ⟨rfl,vl,en,hO,hs⟩;obtain ⟨r,hx⟩:=nth hi;obtain ⟨g1,g2,g3,g4,g5,g6,g7⟩:=hr r (List.mem_of_getElem? hx);obtain ⟨k,k1,k2,k3⟩:=iF (s4 r (List.mem_of_getElem? hx));have WY:=jb s.sp ts s.rs i;obtain ⟨al,ll,cl,rfl,vS⟩:=hO.shape;refine .block (.af (.ixX (enc:=Rdg.c) hs hk.rs rfl rfl aT br hx eu ?_));intro lJ o13 iH;refine .q hs (bj (vs:=(Rdg.c r)) rfl gP br iH) (.o (.alloc hs ji rfl fun b3 w hs=>?_));refine .o (.aL (vs:=r.c) hs rfl rfl br fun w hs=>?_);change St _ _ (.blk b3 [I r.src,I r.st,I r.wa,I r.val,I r.tol,I r.tape,I r.day]::_) at hs;refine .nil (.seq (.draw mix rfl hs fun w hs=>?_));refine .zw 0 rfl zm ?_;refine .z 1 rfl znc ?_;refine .z 2 rfl (zfa ft) ?_;refine .y 3 rfl hs isAgg118 ?_;refine .ys 4 rfl hs [_,_,_,_,_,_,_] gP br ?_;refine .E 5 hs ?_;refine .call call330 rfl (jc hs) ?_;rintro _ w ⟨rfl,hs⟩;refine .go (.E 6 hs ?_);refine .call call335 rfl (xU (t:=r.td) hs hk.ts ak) ?_;rintro _ w ⟨rfl,hs⟩;refine .go (.zw 7 rfl zg ?_);refine .D hs ?_;refine .draw mix rfl hs fun w hs=>?_
  refine .zw 0 rfl zm ?_;refine .z 1 rfl zm ?_;refine .z 2 rfl zm ?_;refine .z 4 rfl zm ?_;refine .z 5 rfl znc ?_;refine .z 6 rfl (zfa dd) ?_;refine .z 7 rfl (zfa bq) ?_;refine .ys 8 rfl hs [_,_,_,_,_,_] bC aM ?_;refine .z 9 rfl (zfa fi) ?_;refine .y 10 rfl hs aj ?_;refine .zw 11 rfl (zfa fh) ?_;refine .y 12 rfl hs aj ?_;refine .z 14 rfl (zfa dW) ?_;refine .y 15 rfl hs aj ?_;refine .z 16 rfl (zfa cI) ?_;refine .y 17 rfl hs aj ?_;refine .z 18 rfl cC ?_;refine .z 19 rfl (zfa cI) ?_;refine .y 20 rfl hs aj ?_;refine .z 21 rfl (zfa dW) ?_;refine .y 22 rfl hs aj ?_;refine .z 23 rfl jj ?_;refine .z 24 rfl (zfa eE) ?_;refine .y 25 rfl hs aj ?_;refine .E 3 hs ?_;refine .call call333 rfl (lS (s:=s.sp) hs (.there .here) hk.st hk.wa ⟨ak,ak⟩ ⟨ak,ak⟩) ?_;rintro _ w ⟨rfl,hs⟩;refine .go (.E 13 hs ?_);refine .call call336 rfl (qo (s:=s.sp) hs hk.wa ak ⟨ak,ak⟩ ⟨ak,ak⟩) ?_;rintro _ w ⟨rfl,hs⟩;refine .go (.E 26 hs ?_);refine .call call331 rfl (gE (ls:=ls++yi s.sp ts s.rs i) (hs.sb:St H w (.blk bm _::en:: .blk b3 _::σ)) hO (by rw [List.length_append];omega)) ?_;rintro _ w ⟨vl3,en3,lq,hs⟩;refine .go (.D hs (nB (nT ?_)));rw [List.append_assoc,show yi s.sp ts s.rs i++two ((s.sp.many:Int)+1+lz ts r.td) (1+r.st*s.sp.wa.length+r.wa) (r.val+r.tol) (r.tol - r.val) r.src=yi s.sp ts s.rs (i+1) by rw [←Ju hx];rfl] at lq;exact .mk ⟨rfl,vl3,en3,lq,hs.sb⟩
 ·rintro fr w ⟨rfl,vl,en,hO,hs⟩;exact Fin.zG results319 ⟨H,vl,en,HLe.refl _,hO,hs⟩
def fnK:Nat→Nat
 |0=>314
 |1=>315
 |2=>316
 |3=>317
 |4=>318
 |_=>319
theorem NL(hk:k<6):∀args w,(callFunc (fnK k) args).run Tryz.prog w= .ok (.enter (fnK k) args) w:=by
 have h:k=0∨k=1∨k=2∨k=3∨k=4∨k=5:=by omega
 rcases h with rfl|rfl|rfl|rfl|rfl|rfl
 ·exact call314
 ·exact call315
 ·exact call316
 ·exact call317
 ·exact call318
 ·exact call319
theorem JI{w:World}{s:Srv}{vst vwa:Value}(hs:St H w (.blk bm [I s.sp.id,I s.sp.src,vst,vwa,I s.sp.al,I s.sp.up,vr,vc,vt,vl]::en::σ))(hk:MkK H s s.bN vst vwa vr vc vt)(hO:bE 4 vl (gO (s.parts k)) en)(he:s.early)(hk6:k<6):
  aaq (fnK k) [Pt bm] w fun _ w'=>∃H1 tU jn,HLe H H1∧bE 4 tU (gO (s.parts (k+1))) jn∧St H1 w' (.blk bm [I s.sp.id,I s.sp.src,vst,vwa,I s.sp.al,I s.sp.up,vr,vc,vt,tU]::jn::σ):=by
 have hl:=mi he k ak;obtain ⟨bw,h1,h2,h3,h4⟩:=he;have xC:s.bN.length≤100:=by have:=dq s.rs;unfold Srv.bN;omega
 have h:k=0∨k=1∨k=2∨k=3∨k=4∨k=5:=by omega
 rcases h with rfl|rfl|rfl|rfl|rfl|rfl
 ·exact rJ hs hk hO (Nat.le_trans hl cR) bw
 ·exact wI hs hk hO (Nat.le_trans hl cR) bw
 ·exact BE hs hk hO (Nat.le_trans hl cR) bw
 ·exact uF hs hk hO (Nat.le_trans hl cR) bw xC
 ·exact oP hs hk hO (Nat.le_trans hl cR) bw xC h2 h4
 ·exact rH hs hk hO (Nat.le_trans hl cR) bw xC h1 h3 fun r hr=>ee.2 ⟨r,hr,rfl⟩
def fnV(b:Nat)(k:Nat):Value:= .func (.func (fnK k)) #[Pt b] #[]
theorem Q7(b:Nat){k:Nat}(hk:k<6):[fnV b 0,fnV b 1,fnV b 2,fnV b 3,fnV b 4,fnV b 5][k]? =some (fnV b k):=by
 have h:k=0∨k=1∨k=2∨k=3∨k=4∨k=5:=by omega
 rcases h with rfl|rfl|rfl|rfl|rfl|rfl<;>rfl
set_option maxHeartbeats 1000000 in
theorem sM{w:World}{s:Srv}{vst vwa:Value}(hs:St H w σ)(h1:RI H vst s.sp.st)(h2:RI H vwa s.sp.wa)(h3:RRd H vr s.rs)(h4:RCm H vc s.cs)(he:s.early):
  aaq 294 [.agg #[I s.sp.id,I s.sp.src,vst,vwa,I s.sp.al,I s.sp.up,vr,vc]] w fun u w'=>∃H1 vl en,HLe H H1∧u= .agg #[I s.sys.many,vl]∧bE 4 vl (gO s.dU) en∧St H1 w' (en::σ):=by
 have sX:=gx he.1;have xC:s.bN.length≤60:=by have:=dq s.rs;have:=he.2.1;unfold Srv.bN;omega
 refine Cl.o func294 ntmps294 ag1 ?_;refine .af (.bx hs fun b1 w hs=>?_);refine .o (.alloc hs oh rfl fun b2 w hs=>?_);refine .nil (.seq (.draw mix rfl hs fun w hs=>?_));refine .ys 0 rfl hs [_,_,_,_,_,_,_,_] df bu ?_;refine .ys 1 rfl hs [_,_,_,_,_,_,_,_] df bu ?_;refine .E 2 hs ?_;refine .call call313 rfl (sL hs h3 (by have:=he.2.1;omega)) ?_;rintro v8 w ⟨H1,az,hT,hs⟩;obtain ⟨at_,ct,rfl⟩:=RTd.shape hT;have DV:MkK H1 s s.bN vst vwa vr vc (.slice at_ s.bN.length ct):=⟨h1.mono az,h2.mono az,h3.mono az,h4.mono az,hT⟩;refine .go (.zw 3 rfl (zbd (vs:=[(0,.agg #[I s.sp.id,I s.sp.src,vst,vwa,I s.sp.al,I s.sp.up,vr,vc]),(1,.slice at_ s.bN.length ct)]) [I s.sp.id,I s.sp.src,vst,vwa,I s.sp.al,I s.sp.up,vr,vc,.slice at_ s.bN.length ct,.slice none 0 0] vz rfl aF) (.E 4 hs ?_));refine .box hs rfl rfl ?_;intro jr w hs;refine .go (.zw 5 rfl zg ?_);refine .D hs ?_;refine .seq (.af (.z zm (.q hs (dv (f:=[_]) (c:=[]) rfl rfl) (.z zm (.q hs (dv (f:=[_]) (c:=[]) rfl rfl) (.z zm (.q hs (dv (f:=[_]) (c:=[]) rfl rfl) (.z zm (.q hs (dv (f:=[_]) (c:=[]) rfl rfl) (.z zm (.q hs (dv (f:=[_]) (c:=[]) rfl rfl) (.z zm (.q hs (dv (f:=[_]) (c:=[]) rfl rfl) (.o (.buildSlice (cells:=[fnV jr 0,fnV jr 1,fnV jr 2,fnV jr 3,fnV jr 4,fnV jr 5]) hs Ce rfl aF fun Iv w hs=>?_)))))))))))))));refine .z (bT runUnderlying448) (.zn zm (.for (N:=6) (J:=fun k fr w=>fr=[(23,.slice (some ⟨Iv,0,none⟩) 6 6),(3,Pt jr),(2,Pt b2),(1,Pt b1)]∧∃H2 vl en,HLe H1 H2∧bE 4 vl (gO (s.parts k)) en∧St H2 w (.blk jr [I s.sp.id,I s.sp.src,vst,vwa,I s.sp.al,I s.sp.up,vr,vc,.slice at_ s.bN.length ct,vl]::en:: .blk Iv [fnV jr 0,fnV jr 1,fnV jr 2,fnV jr 3,fnV jr 4,fnV jr 5]:: .blk b2 [I 0,.slice none 0 0]:: .blk b1 [I s.sp.id,I s.sp.src,vst,vwa,I s.sp.al,I s.sp.up,vr,vc]::σ)) ak ?_ ?_ ?_))
 ·exact .mk ⟨rfl,H1,.slice none 0 0,.nul,HLe.refl _,.nil 4 none,hs.nul.sb⟩
 ·rintro k fr w hk ⟨rfl,H2,vl,en,aN,hO,hs⟩;refine .block (.af (.z (zix runUnderlying448 sizeOf1) (.q hs (eM rfl isAgg1 (hv:=Q7 jr hk)) (.zn zg (.region (.z zm (.o (.jN (first:=[Pt jr]) (cap:=[]) rfl rfl (NL hk) (JI hs (DV.mono aN) hO he hk) ?_))))))));rintro _ w ⟨H3,vl3,en3,bA,lq,hs⟩;exact .nil (nB (nT (.mk ⟨rfl,H3,vl3,en3,aN.trans bA,lq,hs⟩)))
 ·rintro fr w ⟨rfl,H2,vl,en,aN,hO,hs⟩;rw [s.Bw] at hO;obtain ⟨al,ll,cl,rfl,vS⟩:=hO.shape;refine nT (.seq (.draw mix rfl hs fun w hs=>?_));refine .zw 0 rfl (zfa bq) ?_;refine .ys 1 rfl hs [_,_,_,_,_,_] bC aM ?_;refine .z 3 rfl zm ?_;refine .z 4 rfl znc ?_;refine .z 5 rfl (zfa ft) ?_;refine .y 6 rfl hs isAgg118 ?_;refine .z 7 rfl (bT bB) ?_;refine .z 9 rfl zm ?_;refine .z 10 rfl znc ?_;refine .z 11 rfl (zfa jC) ?_;refine .zv 12 rfl hs (uM lg) (.E 2 hs ?_);refine .call call320 rfl (nk (s:=s.sp) hs (h1.mono (az.trans aN)) (h2.mono (az.trans aN)) ⟨ak,ak⟩) ?_;rintro _ w ⟨rfl,hs⟩;refine .go (.zw 8 rfl cC ?_);refine .z 13 rfl (zbd [_,_] mN) ?_;refine .E 14 hs ?_;refine .aL (vs:=[_,_]) hs rfl rfl bR ?_;intro w hs;refine .go (.D hs (.ret ?_));replace hs:St H2 w (.blk b2 [I ((s.sp.many:Int)+(s.bN.length:Int)),.slice al ll cl]::en::σ):=hs.sb;exact Fin.ki [] [] hs fun w hs=>⟨_,results1 results294 (dK (vs:=[_,_]) hs rfl ea bR),H2,_,en,az.trans aN,by show _=Value.agg #[I ((s.sp.many+s.bN.length:Nat):Int),_];rw [Int.natCast_add],hO,hs.tail⟩
theorem jd{w:World}{s:Srv}{vst vwa:Value}(hs:St H w σ)(h1:RI H vst s.sp.st)(h2:RI H vwa s.sp.wa)(h3:RRd H vr s.rs)(h4:RCm H vc s.cs)(he:s.early):
  aaq 294 [.agg #[I s.sp.id,I s.sp.src,vst,vwa,I s.sp.al,I s.sp.up,vr,vc]] w fun u w'=>∃H1,HLe H H1∧RSy H1 u s.sys∧St H1 w' σ:=by
 refine (sM hs h1 h2 h3 h4 he).mono ?_;rintro u w' ⟨H1,vl,en,hle,rfl,hO,hs⟩;have hl:=mi he 6 ak;rw [s.Bw] at hl;obtain ⟨H2,aN,hR,hs⟩:=bE.bG (m:=4) (cs:=s.dU.map Lim.c) hO (fun c hc=>by simp only [List.mem_map] at hc;obtain ⟨x,_,rfl⟩:=hc;rfl) ak (by rw [List.length_map];omega) hs .here;exact ⟨H2,hle.trans aN,⟨vl,rfl,hR⟩,hs⟩
set_option maxHeartbeats 1000000 in
theorem jA{w:World}{s:Srv}{vst vwa:Value}(hs:St H w σ)(h1:RI H vst s.sp.st)(h2:RI H vwa s.sp.wa)(h3:RRd H vr s.rs)(h4:RCm H vc s.cs):
  aaq 262 [.agg #[I s.sp.id,I s.sp.src,vst,vwa,I s.sp.al,I s.sp.up,vr,vc]] w fun u w'=>∃H1 e,HLe H H1∧u=I e∧G6 s e∧St H1 w' σ:=by
 obtain ⟨ast,cst,rfl⟩:=RI.shape h1;obtain ⟨awa,cwa,rfl⟩:=RI.shape h2;obtain ⟨ar,cr,rfl⟩:=RRd.shape h3;obtain ⟨ac,cc,rfl⟩:=RCm.shape h4;refine Cl.o func262 ntmps262 ag1 ?_;refine .af (.bx hs fun b1 w hs=>?_);refine .zn zg (.seq (.af (.z (zfa bq) (.y hs (zls [_,_,_,_,_,_] bC aM) (.o (.call call55 rfl (fZ (s:=s.sp) hs h1 h2) ?_))))));rintro _ w ⟨H1,e,az,rfl,he,hs⟩;refine .zn zg (.af (.z zm (.zn gv (.gN rfl (fun iH=>?_) (fun iH=>?_)))))
 ·refine .af (.z zm (.zn zg (.ret (rT (Fin.aW vG rfl ?_)))));have hq:¬fV s.sp∧e=30:=he.resolve_left fun h=>iH h.2
  exact ⟨H1,_,az,rfl,by rw [hq.2];exact .space hq.1,hs.out⟩
 ·refine .skip (nT (.seq (.af (.z (zfa aS) ?_))));have bw:fV s.sp:=(he.resolve_right fun h=>by omega).1;refine .y hs (zld eB) (.z (bT aT) (.z nE (.z zm (.jK (t':=19) rfl (fun KI=>?_) (fun KI=>?_)))))
  ·exact .Fs 4 4 false (.zn zpT (.cT (.af (.zn zg (.ret (rT (Fin.aW vG rfl ⟨H1,_,az,rfl,.long bw ak,hs.out⟩)))))))
  ·refine .T (.z (zfa dm) (.T (.y hs (zld qL) (.T (.z (bT cH) (.T (.z nE (.zn zpF (.bQ rfl (fun uQ=>?_) (fun uQ=>?_))))))))))
   ·exact .af (.zn zg (.ret (rT (Fin.aW vG rfl ⟨H1,_,az,rfl,.long bw ak,hs.out⟩))))
   ·refine .skip (nT (.seq (.af (.z (zfa aS) (.y hs (zld eB) (.z (bT aT) (.zn zm (.for (N:=s.rs.length) (J:=fun k fr w=>fr=[(26,.slice ar s.rs.length cr),(1,Pt b1)]∧(∀j<k,∀y,s.rs[j]? =some y→k8 s.sp y)∧St H1 w (.blk b1 [I s.sp.id,I s.sp.src,.slice ast s.sp.st.length cst,.slice awa s.sp.wa.length cwa,I s.sp.al,I s.sp.up,.slice ar s.rs.length cr,.slice ac s.cs.length cc]::σ)) ak ?_ ?_ ?_))))))))
    ·exact .mk ⟨rfl,fun j hj=>by omega,hs⟩
    ·rintro k fr w hk ⟨rfl,ew,hs⟩;obtain ⟨r,hx⟩:=nth hk;refine .block (.af (.ixX (enc:=Rdg.c) hs (h3.mono az) rfl rfl aT br hx eu ?_));intro LR o30 rU;refine .q hs (bj (vs:=(Rdg.c r)) rfl gP br rU) (.o (.alloc hs ji rfl fun b5 w hs=>?_));refine .o (.aL (vs:=r.c) hs rfl rfl br fun w hs=>?_);change St _ _ (.blk b5 [I r.src,I r.st,I r.wa,I r.val,I r.tol,I r.tape,I r.day]::_) at hs;refine .nil (.af (.z (zfa bq) (.y hs (zls [_,_,_,_,_,_] bC aM) (.y hs (zls [_,_,_,_,_,_,_] gP br) (.o (.call call292 rfl (oN (s:=s.sp) (r:=r) hs (h1.mono az) (h2.mono az)) ?_))))));rintro _ w ⟨Rw,rfl,yQ,hs⟩;refine .zn fF (.cond rfl (fun BT=>?_) (fun BT=>?_))
     ·exact .af (.zn zg (.ret (rB (rT (rB (rT (Fin.aW vG rfl ⟨H1,_,az,rfl,.rdg bw ak (fun h=>by rw [yQ.2 (h r (List.mem_of_getElem? hx))] at BT;cases BT),hs.out⟩)))))))
     ·exact .skip (nB (nT (.mk ⟨rfl,eU ew hx (yQ.1 (by simpa using BT)),hs.tail⟩)))
    ·rintro fr w ⟨rfl,ew,hs⟩;have OG:∀r∈s.rs,k8 s.sp r:=fun r hr=>by
      obtain ⟨j,hj⟩:=List.getElem?_of_mem hr;exact ew j (List.getElem?_eq_some_iff.1 hj).1 r hj
     clear ew;refine nT (.seq (.af (.z (zfa dm) (.y hs (zld qL) (.z (bT cH) (.zn zm (.for (N:=s.cs.length) (J:=fun k fr w=>fr=[(39,.slice ac s.cs.length cc),(1,Pt b1)]∧(∀j<k,∀y,s.cs[j]? =some y→qH y)∧St H1 w (.blk b1 [I s.sp.id,I s.sp.src,.slice ast s.sp.st.length cst,.slice awa s.sp.wa.length cwa,I s.sp.al,I s.sp.up,.slice ar s.rs.length cr,.slice ac s.cs.length cc]::σ)) ak ?_ ?_ ?_)))))))
     ·exact .mk ⟨rfl,fun j hj=>by omega,hs⟩
     ·rintro k fr w hk ⟨rfl,ew,hs⟩;obtain ⟨c,hx⟩:=nth hk;refine .block (.af (.ixX (enc:=Cmp.c) hs (h4.mono az) rfl rfl cH dC hx eu ?_));intro UN o43 BR;refine .q hs (bj (vs:=(Cmp.c c)) rfl vI dC BR) (.o (.alloc hs qI rfl fun b7 w hs=>?_));refine .o (.aL (vs:=c.c) hs rfl rfl dC fun w hs=>?_);change St _ _ (.blk b7 [I c.src,I c.tape,I c.fr,I c.to,I c.lo,I c.hi]::_) at hs;refine .nil (.af (.y hs (zls [_,_,_,_,_,_] vI dC) (.o (.call call293 rfl (oO (c:=c) hs) ?_))));rintro _ w ⟨b46,rfl,Ib,hs⟩;refine .zn fF (.cond rfl (fun qt=>?_) (fun qt=>?_))
      ·exact .af (.zn zg (.ret (rB (rT (rB (rT (Fin.aW vG rfl ⟨H1,_,az,rfl,.cmp bw ak OG (fun h=>by rw [Ib.2 (h c (List.mem_of_getElem? hx))] at qt;cases qt),hs.out⟩)))))))
      ·exact .skip (nB (nT (.mk ⟨rfl,eU ew hx (Ib.1 (by simpa using qt)),hs.tail⟩)))
     ·rintro fr w ⟨rfl,ew,hs⟩;have AU:∀c∈s.cs,qH c:=fun c hc=>by
       obtain ⟨j,hj⟩:=List.getElem?_of_mem hc;exact ew j (List.getElem?_eq_some_iff.1 hj).1 c hj
      have R2:s.early:=⟨bw,ak,ak,OG,AU⟩;have sX:=gx bw;have xC:s.bN.length≤60:=by have:=dq s.rs;have:=R2.2.1;unfold Srv.bN;omega
      have vS:=mi R2 6 ak;rw [s.Bw] at vS;have hsm2:s.sys.many=((s.sp.many+s.bN.length:Nat):Int):=rfl;refine nT (.seq (.af (.y hs (zls [_,_,_,_,_,_,_,_] df bu) (.o (.call call294 rfl (jd (s:=s) hs (h1.mono az) (h2.mono az) (h3.mono az) (h4.mono az) R2) ?_)))));rintro _ w ⟨H2,aN,⟨ul,rfl,hL⟩,hs⟩;obtain ⟨al,cl,rfl⟩:=RL.shape hL;have WQ:s.sys.dU.length=s.dU.length:=rfl;refine .o (.alloc hs oh rfl fun b8 w hs=>?_);refine .o (.aL (vs:=[_,_]) hs rfl rfl bR fun w hs=>?_);refine .nil (.af (.z (zfa bS) (.y hs (zld aj) (.z nE (.z zm (.jK (t':=54) rfl (fun XS=>?_) (fun XS=>?_)))))))
      ·exact .Fs 4 3 false (.zn zpT (.cT (.af (.zn zg (.ret (rT (Fin.aW vG rfl ⟨H2,_,az.trans aN,rfl,.big R2 ak,hs.out⟩)))))))
      ·refine .T (.z (zfa cN) (.T (.y hs (zld lg) (.T (.z (bT bK) (.T (.z nE (.zn zpF (.bQ rfl (fun XK=>?_) (fun XK=>?_))))))))))
       ·exact .af (.zn zg (.ret (rT (Fin.aW vG rfl ⟨H2,_,az.trans aN,rfl,.big R2 ak,hs.out⟩))))
       ·exact .skip (nT (.af (.zn zg (.ret (Fin.aW vG rfl ⟨H2,_,az.trans aN,rfl,.ok R2 ⟨ak,ak⟩,hs.out⟩)))))
end Go.Proofs.YtfnfiekkdpphjaaGreat
