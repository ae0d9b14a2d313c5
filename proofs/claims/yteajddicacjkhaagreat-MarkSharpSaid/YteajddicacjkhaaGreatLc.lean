/-
  Texts of these claims, joined: Opn Opb Opw Opi Opr Opv Opm Opy Opz Opq Opc Opf Cls Fct Wa Wb Wc Wd We Wf Wg Wh Wp Wt Wu Wy Xd Xf Xi Xj Xn Srt Yc Yd Ye Yf Yq Za Zb.
-/
import Derived.Test.YteajddicacjkhaaGreatLb
import Derived.Test.YteajddicacjkhaaGreatProg
import Derived.KernelRfl
import Derived.OpenShut
import Derived.ProofKit
import Derived.ShutString
import Derived.ChangeOld
import Derived.RowKit
import Derived.JoinedOf
import Derived.Shelf.Sort.Plain
import Derived.Shelf.Slices.CompactI
import Derived.Shelf.Slices.In.SortNone
import Derived.Lib.RowBridge
namespace Go.Proofs.YteajddicacjkhaaGreat
open Tryz
abbrev Z4:=Go.MW.Cl Tryz.prog
theorem Ao:type_of% @call117:=@call117
theorem Yv:type_of% @call131:=@call131
theorem vV:type_of% @call141:=@call141
theorem oV:type_of% @call146:=@call146
theorem iS:type_of% @call164:=@call164
theorem Yu:type_of% @call167:=@call167
theorem Yt:type_of% @call188:=@call188
theorem NA:type_of% @call199:=@call199
theorem cU:type_of% @call36:=@call36
theorem kC:type_of% @call72:=@call72
theorem uH:type_of% @call90:=@call90
theorem Ys:type_of% @call93:=@call93
theorem kF:type_of% @isAgg100:=@isAgg100
theorem pS:type_of% @isAgg113:=@isAgg113
theorem zN:type_of% @isAgg120:=@isAgg120
theorem fU:type_of% @isAgg122:=@isAgg122
theorem FN:type_of% @isAgg140:=@isAgg140
theorem jo:type_of% @isAgg162:=@isAgg162
theorem eL:type_of% @isAgg175:=@isAgg175
theorem cf:type_of% @isAgg177:=@isAgg177
theorem zM:type_of% @isAgg179:=@isAgg179
theorem kE:type_of% @isAgg193:=@isAgg193
theorem An:type_of% @isAgg22:=@isAgg22
theorem OI:type_of% @isAgg226:=@isAgg226
theorem OH:type_of% @isAgg241:=@isAgg241
theorem OG:type_of% @isAgg243:=@isAgg243
theorem cj:type_of% @isAgg25:=@isAgg25
theorem fB:type_of% @isAgg26:=@isAgg26
theorem mc:type_of% @isAgg267:=@isAgg267
theorem dV:type_of% @isAgg28:=@isAgg28
theorem aj:type_of% @isAgg3:=@isAgg3
theorem pR:type_of% @isAgg303:=@isAgg303
theorem an:type_of% @isAgg34:=@isAgg34
theorem bK:type_of% @isAgg42:=@isAgg42
theorem bC:type_of% @isAgg48:=@isAgg48
theorem fT:type_of% @isAgg49:=@isAgg49
theorem FM:type_of% @isAgg50:=@isAgg50
theorem aP:type_of% @isAgg52:=@isAgg52
theorem vU:type_of% @isAgg62:=@isAgg62
theorem oU:type_of% @isAgg64:=@isAgg64
theorem fa:type_of% @isAgg87:=@isAgg87
theorem Nz:type_of% @results111:=@results111
theorem vT:type_of% @results117:=@results117
theorem CN:type_of% @results120:=@results120
theorem Ny:type_of% @results134:=@results134
theorem CM:type_of% @results135:=@results135
theorem m8:type_of% @results139:=@results139
theorem CL:type_of% @results150:=@results150
theorem TW:type_of% @results17:=@results17
theorem Nw:type_of% @results170:=@results170
theorem ke:type_of% @results18:=@results18
theorem lG:type_of% @results19:=@results19
theorem Nv:type_of% @results228:=@results228
theorem CK:type_of% @results256:=@results256
theorem It:type_of% @results32:=@results32
theorem TV:type_of% @results79:=@results79
theorem jZ:type_of% @runUnderlying100:=@runUnderlying100
theorem CJ:type_of% @runUnderlying104:=@runUnderlying104
theorem Yr:type_of% @runUnderlying113:=@runUnderlying113
theorem dx:type_of% @runUnderlying120:=@runUnderlying120
theorem Yq:type_of% @runUnderlying124:=@runUnderlying124
theorem CI:type_of% @runUnderlying140:=@runUnderlying140
theorem mv:type_of% @runUnderlying151:=@runUnderlying151
theorem mu:type_of% @runUnderlying153:=@runUnderlying153
theorem bR:type_of% @runUnderlying159:=@runUnderlying159
theorem mq:type_of% @runUnderlying162:=@runUnderlying162
theorem aU:type_of% @runUnderlying175:=@runUnderlying175
theorem Yp:type_of% @runUnderlying179:=@runUnderlying179
theorem Yo:type_of% @runUnderlying190:=@runUnderlying190
theorem CH:type_of% @runUnderlying193:=@runUnderlying193
theorem ea:type_of% @runUnderlying22:=@runUnderlying22
theorem jn:type_of% @runUnderlying23:=@runUnderlying23
theorem Yn:type_of% @runUnderlying236:=@runUnderlying236
theorem iE:type_of% @runUnderlying238:=@runUnderlying238
theorem Ym:type_of% @runUnderlying246:=@runUnderlying246
theorem FL:type_of% @runUnderlying25:=@runUnderlying25
theorem a8:type_of% @runUnderlying26:=@runUnderlying26
theorem eS:type_of% @runUnderlying260:=@runUnderlying260
theorem aH:type_of% @runUnderlying267:=@runUnderlying267
theorem Yl:type_of% @runUnderlying272:=@runUnderlying272
theorem bF:type_of% @runUnderlying3:=@runUnderlying3
theorem CG:type_of% @runUnderlying303:=@runUnderlying303
theorem af:type_of% @runUnderlying34:=@runUnderlying34
theorem FK:type_of% @runUnderlying37:=@runUnderlying37
theorem FJ:type_of% @runUnderlying42:=@runUnderlying42
theorem ux:type_of% @runUnderlying48:=@runUnderlying48
theorem bn:type_of% @runUnderlying49:=@runUnderlying49
theorem dF:type_of% @runUnderlying50:=@runUnderlying50
theorem aF:type_of% @runUnderlying62:=@runUnderlying62
theorem FI:type_of% @runUnderlying66:=@runUnderlying66
theorem cn:type_of% @runUnderlying80:=@runUnderlying80
theorem uw:type_of% @runUnderlying87:=@runUnderlying87
theorem cH:type_of% @runUnderlying96:=@runUnderlying96
theorem jm:type_of% @runUnderlying97:=@runUnderlying97
theorem bD:type_of% @sizeOf100:=@sizeOf100
theorem pO:type_of% @sizeOf104:=@sizeOf104
theorem jt:type_of% @sizeOf113:=@sizeOf113
theorem ck:type_of% @sizeOf122:=@sizeOf122
theorem fS:type_of% @sizeOf134:=@sizeOf134
theorem eR:type_of% @sizeOf140:=@sizeOf140
theorem TU:type_of% @sizeOf151:=@sizeOf151
theorem kd:type_of% @sizeOf153:=@sizeOf153
theorem cZ:type_of% @sizeOf162:=@sizeOf162
theorem bg:type_of% @sizeOf177:=@sizeOf177
theorem eQ:type_of% @sizeOf179:=@sizeOf179
theorem Am:type_of% @sizeOf190:=@sizeOf190
theorem bO:type_of% @sizeOf193:=@sizeOf193
theorem mZ:type_of% @sizeOf199:=@sizeOf199
theorem Al:type_of% @sizeOf241:=@sizeOf241
theorem bj:type_of% @sizeOf25:=@sizeOf25
theorem TT:type_of% @sizeOf267:=@sizeOf267
theorem bY:type_of% @sizeOf28:=@sizeOf28
theorem ak:type_of% @sizeOf3:=@sizeOf3
theorem aV:type_of% @sizeOf303:=@sizeOf303
theorem aO:type_of% @sizeOf34:=@sizeOf34
theorem Nu:type_of% @sizeOf4:=@sizeOf4
theorem aD:type_of% @sizeOf42:=@sizeOf42
theorem aT:type_of% @sizeOf48:=@sizeOf48
theorem aC:type_of% @sizeOf52:=@sizeOf52
theorem fA:type_of% @sizeOf64:=@sizeOf64
theorem bk:type_of% @sizeOf87:=@sizeOf87
theorem pN:type_of% @typeInfo3:=@typeInfo3
theorem Yk:type_of% @typeInfo303:=@typeInfo303
theorem rE:type_of% @underlying124:=@underlying124
theorem eh:type_of% @underlying3:=@underlying3
theorem Ef:type_of% @underlying39:=@underlying39
theorem Ir:type_of% @underlying4:=@underlying4
theorem uG:type_of% @underlying44:=@underlying44
theorem dZ:type_of% @zeroValue100:=@zeroValue100
theorem Ee:type_of% @zeroValue104:=@zeroValue104
theorem iZ:type_of% @zeroValue122:=@zeroValue122
theorem oT:type_of% @zeroValue134:=@zeroValue134
theorem uF:type_of% @zeroValue140:=@zeroValue140
theorem Ed:type_of% @zeroValue153:=@zeroValue153
theorem uE:type_of% @zeroValue162:=@zeroValue162
theorem gZ:type_of% @zeroValue177:=@zeroValue177
theorem oS:type_of% @zeroValue179:=@zeroValue179
theorem oR:type_of% @zeroValue190:=@zeroValue190
theorem fQ:type_of% @zeroValue193:=@zeroValue193
theorem Rm:type_of% @zeroValue199:=@zeroValue199
theorem jY:type_of% @zeroValue25:=@zeroValue25
theorem lF:type_of% @zeroValue28:=@zeroValue28
theorem dw:type_of% @zeroValue3:=@zeroValue3
theorem gY:type_of% @zeroValue303:=@zeroValue303
theorem gX:type_of% @zeroValue34:=@zeroValue34
theorem cS:type_of% @zeroValue42:=@zeroValue42
theorem rD:type_of% @zeroValue48:=@zeroValue48
theorem eg:type_of% @zeroValue52:=@zeroValue52
theorem zB:type_of% @zeroValue64:=@zeroValue64
theorem dM:type_of% @zeroValue87:=@zeroValue87
end Go.Proofs.YteajddicacjkhaaGreat
namespace Go.Proofs.YteajddicacjkhaaGreat
open Go.MW Go.ChangeShapes Go.WideShapes Tryz
set_option maxRecDepth 100000
theorem tT:Tryz.prog.cellsOf 3=1:=by kernel_rfl
theorem KZ:Tryz.prog.cellsOf 34=1:=by kernel_rfl
theorem XQ:Tryz.prog.bytesOf 3=8:=by kernel_rfl
theorem Br:reachBytes=140737488351232:=rfl
section
variable{H:Type}{enc:TypeId×Value→H}{w:World}{sp:Nat→Bool}{held:Bool}{n:Nat}{cs:List Value}{y:DataW H×List MemPlace}{v:Value}{d:DataW H}{p:List MemPlace}{r:Reach}{base:Nat}
theorem Js(hw:Wt Tryz.prog 34 y.1)(h:DataW.trod enc Tryz.prog w 0 sp held n 34 cs=some y):∃v xs,cs=[v]∧RI (hp w) v xs∧IsIn xs:=by
 obtain ⟨v,xs,h1,h2,h3,h4⟩:=OS underlying34 eh tT hw h;rw [XQ,Br] at h3;exact ⟨v,xs,h1,h2,ai,h4⟩
end
end Go.Proofs.YteajddicacjkhaaGreat
namespace Go.Proofs.YteajddicacjkhaaGreat
open Go.MW Go.ChangeShapes Go.WideShapes Tryz
set_option maxRecDepth 100000
theorem c_3:Tryz.prog.cellsOf 37=3:=by kernel_rfl
theorem b_3:Tryz.prog.bytesOf 37=24:=by kernel_rfl
section
variable{H:Type}{enc:TypeId×Value→H}{w:World}{sp:Nat→Bool}{held:Bool}{n:Nat}{cs:List Value}{y:DataW H×List MemPlace}{v:Value}{d:DataW H}{p:List MemPlace}{r:Reach}{base:Nat}
theorem RO(hw:Wt Tryz.prog 119 y.1)(h:DataW.trod enc Tryz.prog w 0 sp held n 119 cs=some y):∃(v:Value) (ls:List Tri),cs=[v]∧RS (hp w) 3 v (ls.map Tri.v)∧ls.length≤17592186043904:=by
 obtain ⟨v,zs,h1,h2,h9,h3⟩:=Bi (k:=3) underlying119 underlying37 eh tT ef c_3 hw h;obtain ⟨ls,h4⟩:=YA h3;rw [b_3,Br] at h9;have h6:zs.length=ls.length:=by have:=congrArg List.length h4;simpa using this
 exact ⟨v,ls,h1,by rw [←h4];exact h2,ai⟩
end
end Go.Proofs.YteajddicacjkhaaGreat
namespace Go.Proofs.YteajddicacjkhaaGreat
open Go.MW Go.ChangeShapes Go.WideShapes Tryz
set_option maxRecDepth 100000
theorem Tw:Tryz.prog.cellsOf 120=1:=by kernel_rfl
theorem XP:Tryz.prog.cellsOf 199=2:=by kernel_rfl
theorem XR:Tryz.prog.bytesOf 199=16:=by kernel_rfl
theorem K3:Tryz.prog.cellsOf 122=2:=by kernel_rfl
theorem KD:∀{ls:List Prb},ls.map Prb.c=(ls.map fun p=>(⟨p.u,p.t⟩:Use)).map Use.c:=by
 intro ls;rw [List.map_map];rfl
section
variable{H:Type}{enc:TypeId×Value→H}{w:World}{sp:Nat→Bool}{held:Bool}{n:Nat}{cs:List Value}{y:DataW H×List MemPlace}{v:Value}{d:DataW H}{p:List MemPlace}{r:Reach}{base:Nat}
theorem RN(hw:Wt Tryz.prog 120 y.1)(h:DataW.trod enc Tryz.prog w 0 sp held n 120 cs=some y):∃v us,cs=[v]∧RU (hp w) v us∧us.length≤8796093021952:=by
 obtain ⟨v,zs,h1,h2,h9,h3⟩:=OR (k:=2) underlying120 underlying199 rfl ef (by
  intro i f hf
  match i with
  |0|1=>cases hf;exact ⟨rfl,eh,tT⟩
  |i+2=>simp at hf) XP hw h
 obtain ⟨ls,h4,h5⟩:=Yz h3;rw [XR,Br] at h9;have h6:zs.length=ls.length:=by have:=congrArg List.length h4;simpa using this
 exact ⟨v,ls.map fun p=>⟨p.u,p.t⟩,h1,by unfold RU;rw [←KD,←h4];exact h2,by rw [List.length_map];omega⟩
theorem Pf(hw:Wt Tryz.prog 122 y.1)(h:DataW.trod enc Tryz.prog w 0 sp held n 122 cs=some y):∃(m:Int) (us:List Use) (u:Value),cs=[I m,u]∧RU (hp w) u us∧I64 m∧us.length≤8796093021952:=by
 obtain ⟨ys,m,_,rfl,hlen,rI,hg⟩:=DataW.trod_struct underlying122 h;rw [K3] at hlen;obtain ⟨c0,c1,rfl⟩:=YE hlen;obtain ⟨_,h0,k0⟩:=fld hg rI 0 rfl rfl rfl tT underlying122 hw;obtain ⟨_,h1,k1⟩:=fld hg rI 1 rfl rfl rfl Tw underlying122 hw;obtain ⟨m,e0,i0⟩:=As eh h0;obtain ⟨u,us,e1,r1,i1⟩:=RN k1 h1;cases e0;cases e1
 exact ⟨m,us,_,rfl,r1,i0,i1⟩
end
end Go.Proofs.YteajddicacjkhaaGreat
namespace Go.Proofs.YteajddicacjkhaaGreat
open Go.MW Go.ChangeShapes Go.WideShapes Go.ChangeAt Go.RowKit Tryz
set_option maxRecDepth 100000 in
theorem RM{H:Type}{enc:TypeId×Value→H}{w:World}{sp:Nat→Bool}{held:Bool}{v:Value}{d:DataW H}{p:List MemPlace}{r:Reach}{base:Nat}
  (hv:Value.okWide Tryz.prog w r base 3 v) (h:DataW.Trod enc Tryz.prog w 0 sp held 3 v d p):∃a,v=I a∧I64 a:=by
 obtain ⟨a,rfl,rfl,rfl,wa⟩:=open_int eh hv h;exact ⟨a,rfl,Yw wa⟩
open Go.MW Go.ChangeShapes Go.WideShapes Tryz
set_option maxRecDepth 100000
theorem c_4:Tryz.prog.cellsOf 97=4:=by kernel_rfl
section
variable{H:Type}{enc:TypeId×Value→H}{w:World}{sp:Nat→Bool}{held:Bool}{n:Nat}{cs:List Value}{y:DataW H×List MemPlace}{v:Value}{d:DataW H}{p:List MemPlace}{r:Reach}{base:Nat}
theorem Jr(hv:Value.okWide Tryz.prog w r base 97 v)(h:DataW.Trod enc Tryz.prog w 0 sp held 97 v d p)(_:Wt Tryz.prog 97 d):∃l:Lim,v= .agg l.c.toArray∧True:=by
 obtain ⟨cs,n,rfl,hn⟩:=K6 underlying97 hv h;obtain ⟨xs,h1,rfl,h3⟩:=s5 underlying97 eh tT c_4 hn;obtain ⟨a,b,c,d,rfl⟩:=len4 h1;exact ⟨⟨a,b,c,d⟩,rfl,trivial⟩
end
end Go.Proofs.YteajddicacjkhaaGreat
namespace Go.Proofs.YteajddicacjkhaaGreat
open Go.MW Go.ChangeShapes Go.WideShapes Tryz
set_option maxRecDepth 100000
theorem YC{α:Type}{l:List α}(h:l.length=6):∃a b c d e f,l=[a,b,c,d,e,f]:=by match l,h with|[a,b,c,d,e,f],_=>exact ⟨a,b,c,d,e,f,rfl⟩
section
variable{H:Type}{enc:TypeId×Value→H}{w:World}{sp:Nat→Bool}{held:Bool}{n:Nat}{cs:List Value}{y:DataW H×List MemPlace}{v:Value}{d:DataW H}{p:List MemPlace}{r:Reach}{base:Nat}
end
end Go.Proofs.YteajddicacjkhaaGreat
namespace Go.Proofs.YteajddicacjkhaaGreat
open Go.MW Go.ChangeShapes Go.WideShapes Tryz
set_option maxRecDepth 100000
theorem Nj:Tryz.prog.cellsOf 35=1:=by kernel_rfl
theorem Ni:Tryz.prog.cellsOf 36=1:=by kernel_rfl
theorem c_53:Tryz.prog.cellsOf 151=5:=by kernel_rfl
theorem c_43:Tryz.prog.cellsOf 97=4:=by kernel_rfl
theorem UP:Tryz.prog.cellsOf 37=3:=by kernel_rfl
theorem K0:Tryz.prog.cellsOf 39=7:=by kernel_rfl
theorem len7{α:Type}{l:List α}(h:l.length=7):∃a b c d e f g,l=[a,b,c,d,e,f,g]:=by match l,h with|[a,b,c,d,e,f,g],_=>exact ⟨a,b,c,d,e,f,g,rfl⟩
theorem Oy:∀{zs:List (List Int)},(∀z∈zs,z.length=5∧∀y∈z,I64 y)→∃ls:List F5,zs.map Is=ls.map F5.v
 |[],_=>⟨[],rfl⟩
 |z::zs,h=>by
  obtain ⟨ls,h1⟩:=Oy (fun c hc=>h c (.tail _ hc));obtain ⟨h3,_⟩:=h z (.head _)
  match z,h3 with
  |[a,b,c,d,e],_=>exact ⟨⟨a,b,c,d,e⟩::ls,by rw [List.map_cons,h1];rfl⟩
theorem Ox:∀{zs:List (List Int)},(∀z∈zs,z.length=4∧∀y∈z,I64 y)→∃ls:List F4,zs.map Is=ls.map F4.v
 |[],_=>⟨[],rfl⟩
 |z::zs,h=>by
  obtain ⟨ls,h1⟩:=Ox (fun c hc=>h c (.tail _ hc));obtain ⟨h3,_⟩:=h z (.head _)
  match z,h3 with
  |[a,b,c,d],_=>exact ⟨⟨a,b,c,d⟩::ls,by rw [List.map_cons,h1];rfl⟩
structure Z3 where
 sp:List Int
 rs:List F5
 cs:List F4
 pk:List Int
 x:Int
 y:Int
 z:Int
def Yb(H:bG)(v:Value)(r:Z3):Prop:=∃vs v5 v4 vp,v= .agg #[vs,v5,v4,vp,I r.x,I r.y,I r.z]∧RI H vs r.sp∧RF5 H v5 r.rs∧RF4 H v4 r.cs∧RI H vp r.pk
section
variable{H:Type}{enc:TypeId×Value→H}{w:World}{sp:Nat→Bool}{held:Bool}{n:Nat}{cs:List Value}{y:DataW H×List MemPlace}{v:Value}{d:DataW H}{p:List MemPlace}{r:Reach}{base:Nat}
theorem Mp(hw:Wt Tryz.prog 35 y.1)(h:DataW.trod enc Tryz.prog w 0 sp held n 35 cs=some y):∃(v:Value) (ls:List F5),cs=[v]∧RF5 (hp w) v ls:=by
 obtain ⟨v,zs,h1,h2,_,h3⟩:=Bi (k:=5) underlying35 underlying151 eh tT ef c_53 hw h;obtain ⟨ls,h4⟩:=Oy h3;exact ⟨v,ls,h1,by unfold RF5;rw [←h4];exact h2⟩
theorem Mo(hw:Wt Tryz.prog 36 y.1)(h:DataW.trod enc Tryz.prog w 0 sp held n 36 cs=some y):∃(v:Value) (ls:List F4),cs=[v]∧RF4 (hp w) v ls:=by
 obtain ⟨v,zs,h1,h2,_,h3⟩:=Bi (k:=4) underlying36 underlying97 eh tT ef c_43 hw h;obtain ⟨ls,h4⟩:=Ox h3;exact ⟨v,ls,h1,by unfold RF4;rw [←h4];exact h2⟩
end
end Go.Proofs.YteajddicacjkhaaGreat
namespace Go.Proofs.YteajddicacjkhaaGreat
open Go.MW Go.ChangeShapes Go.WideShapes Tryz
set_option maxRecDepth 100000
theorem c_63:Tryz.prog.cellsOf 96=6:=by kernel_rfl
structure Six where
 a:Int
 b:Int
 c:Int
 d:Int
 e:Int
 f:Int
section
variable{H:Type}{enc:TypeId×Value→H}{w:World}{sp:Nat→Bool}{held:Bool}{n:Nat}{cs:List Value}{y:DataW H×List MemPlace}{v:Value}{d:DataW H}{p:List MemPlace}{r:Reach}{base:Nat}
theorem Mj(hv:Value.okWide Tryz.prog w r base 96 v)(h:DataW.Trod enc Tryz.prog w 0 sp held 96 v d p)(_:Wt Tryz.prog 96 d):∃x:Six,v= .agg #[I x.a,I x.b,I x.c,I x.d,I x.e,I x.f]∧True:=by
 obtain ⟨cs,n,rfl,hn⟩:=K6 underlying96 hv h;obtain ⟨xs,h1,rfl,h3⟩:=s5 underlying96 eh tT c_63 hn;obtain ⟨a,b,c,d,e,f,rfl⟩:=YC h1;exact ⟨⟨a,b,c,d,e,f⟩,rfl,trivial⟩
end
end Go.Proofs.YteajddicacjkhaaGreat
namespace Go.Proofs.YteajddicacjkhaaGreat
open Go.MW Go.ChangeShapes Go.WideShapes Tryz
set_option maxRecDepth 100000
theorem Ty:Tryz.prog.cellsOf 4=1:=by kernel_rfl
theorem Qp:Tryz.prog.cellsOf 119=1:=by kernel_rfl
section
variable{H:Type}{enc:TypeId×Value→H}{w:World}{sp:Nat→Bool}{held:Bool}{n:Nat}{cs:List Value}{y:DataW H×List MemPlace}{v:Value}{d:DataW H}{p:List MemPlace}{r:Reach}{base:Nat}
end
end Go.Proofs.YteajddicacjkhaaGreat
namespace Go.Proofs.YteajddicacjkhaaGreat
open Go.MW Go.ChangeShapes Go.WideShapes Tryz
set_option maxRecDepth 100000
theorem GM:Tryz.prog.cellsOf 42=2:=by kernel_rfl
section
variable{H:Type}{enc:TypeId×Value→H}{w:World}{sp:Nat→Bool}{held:Bool}{n:Nat}{cs:List Value}{y:DataW H×List MemPlace}{v:Value}{d:DataW H}{p:List MemPlace}{r:Reach}{base:Nat}
theorem Mq(h:DataW.trod enc Tryz.prog w 0 sp held n 42 cs=some y):∃a b:Int,cs=[I a,I b]∧I64 a∧I64 b:=by
 obtain ⟨xs,a1,a2,a3⟩:=CR underlying42 (by
  intro i f hf
  match i with
  |0|1=>cases hf;exact ⟨rfl,eh,tT⟩
  |i+2=>simp at hf) (by rw [GM];rfl) h
 obtain ⟨a,b,rfl⟩:=YE a1;exact ⟨a,b,a2,a3 a bB,a3 b bB⟩
end
end Go.Proofs.YteajddicacjkhaaGreat
namespace Go.Proofs.YteajddicacjkhaaGreat
open Go.MW Go.ChangeShapes Go.WideShapes Tryz
set_option maxRecDepth 100000
theorem Nh:Tryz.prog.cellsOf 40=1:=by kernel_rfl
theorem Tx:Tryz.prog.cellsOf 96=6:=by kernel_rfl
theorem Qq:Tryz.prog.cellsOf 44=14:=by kernel_rfl
theorem Vk{α:Type}{l:List α}(h:l.length=14):∃a b c d e f g i j k m n o p,l=[a,b,c,d,e,f,g,i,j,k,m,n,o,p]:=by match l,h with|[a,b,c,d,e,f,g,i,j,k,m,n,o,p],_=>exact ⟨a,b,c,d,e,f,g,i,j,k,m,n,o,p,rfl⟩
section
variable{H:Type}{enc:TypeId×Value→H}{w:World}{sp:Nat→Bool}{held:Bool}{n:Nat}{cs:List Value}{y:DataW H×List MemPlace}{v:Value}{d:DataW H}{p:List MemPlace}{r:Reach}{base:Nat}
theorem Mn(hw:Wt Tryz.prog 40 y.1)(h:DataW.trod enc Tryz.prog w 0 sp held n 40 cs=some y):∃(v:Value) (ls:List Sx),cs=[v]∧RS (hp w) 6 v (ls.map Sx.v):=by
 obtain ⟨v,zs,h1,h2,_,h3⟩:=Bi (k:=6) underlying40 underlying96 eh tT ef Tx hw h;obtain ⟨ls,h4,_⟩:=all_map (f:=Sx.v) (Q:=fun _=>True) (css:=zs.map Is) fun c hc=>by
  obtain ⟨z,hz,rfl⟩:=List.mem_map.1 hc;obtain ⟨a,b,c,d,e,f,rfl⟩:=YC (h3 z hz).1;exact ⟨⟨a,b,c,d,e,f⟩,rfl,trivial⟩
 exact ⟨v,ls,h1,by rw [←h4];exact h2⟩
theorem RP(hw:Wt Tryz.prog 39 y.1)(h:DataW.trod enc Tryz.prog w 0 sp held n 39 cs=some y):∃q:Z3,Yb (hp w) (.agg cs.toArray) q:=by
 obtain ⟨ys,m,_,rfl,hlen,rI,hg⟩:=DataW.trod_struct Ef h;rw [K0] at hlen;obtain ⟨c0,c1,c2,c3,c4,c5,c6,rfl⟩:=len7 hlen;obtain ⟨_,h0,k0⟩:=fld hg rI 0 rfl rfl rfl KZ Ef hw;obtain ⟨_,h1,k1⟩:=fld hg rI 1 rfl rfl rfl Nj Ef hw;obtain ⟨_,h2,k2⟩:=fld hg rI 2 rfl rfl rfl Ni Ef hw;obtain ⟨_,h3,k3⟩:=fld hg rI 3 rfl rfl rfl KZ Ef hw;obtain ⟨_,h4,k4⟩:=fld hg rI 4 rfl rfl rfl UP Ef hw;obtain ⟨v0,s0,e0,r0,i0⟩:=Js k0 h0;obtain ⟨v1,l1,e1,r1⟩:=Mp k1 h1;obtain ⟨v2,l2,e2,r2⟩:=Mo k2 h2;obtain ⟨v3,s3,e3,r3,i3⟩:=Js k3 h3;obtain ⟨xs,g1,g2,g3⟩:=s5 underlying37 eh tT UP h4;obtain ⟨a,b,c,rfl⟩:=YD g1;cases e0;cases e1;cases e2;cases e3;cases g2
 exact ⟨⟨s0,l1,l2,s3,a,b,c⟩,⟨_,_,_,_,rfl,r0,r1,r2,r3⟩⟩
theorem uY(hv:Value.okWide Tryz.prog w r base 44 v)(h:DataW.Trod enc Tryz.prog w 0 sp held 44 v d p)(hw:Wt Tryz.prog 44 d):∃x:GV,(∃vs v5 v4 vp vn vg,v=x.agg vs v5 v4 vp vn vg∧zq (hp w) x vs v5 v4 vp vn vg)∧I64 x.m1∧I64 x.m2:=by
 obtain ⟨cs,n,rfl,hn,_⟩:=A4 uG hv h;obtain ⟨ys,m,_,e,hlen,rI,hg⟩:=DataW.trod_struct uG hn;cases e
 rw [Qq] at hlen;obtain ⟨c0,c1,c2,c3,c4,c5,c6,c7,c8,c9,c10,c11,c12,c13,rfl⟩:=Vk hlen;obtain ⟨_,h0,k0⟩:=fld hg rI 0 rfl rfl rfl K0 uG hw;obtain ⟨_,h1,k1⟩:=fld hg rI 1 rfl rfl rfl KZ uG hw;obtain ⟨_,h2,k2⟩:=fld hg rI 2 rfl rfl rfl Nh uG hw;obtain ⟨_,h3,k3⟩:=fld hg rI 3 rfl rfl rfl GM uG hw;obtain ⟨_,h4,k4⟩:=fld hg rI 4 rfl rfl rfl UP uG hw;obtain ⟨q,vs,v5,v4,vp,e0,r0,r1,r2,r3⟩:=RP k0 h0;obtain ⟨vn,ns,e1,r4,_⟩:=Js k1 h1;obtain ⟨vg,sx,e2,r5⟩:=Mn k2 h2;obtain ⟨m1,m2,e3,i1,i2⟩:=Mq h3;obtain ⟨xs,g1,e4,g3⟩:=s5 underlying37 eh tT UP h4;obtain ⟨a,b,c,rfl⟩:=YD g1;cases e0;cases e1;cases e2;cases e3;cases e4
 exact ⟨⟨q.sp,q.rs,q.cs,q.pk,q.x,q.y,q.z,ns,sx,m1,m2,a,b,c⟩,⟨_,_,_,_,_,_,rfl,r0,r1,r2,r3,r4,r5⟩,i1,i2⟩
end
end Go.Proofs.YteajddicacjkhaaGreat
namespace Go.Proofs.YteajddicacjkhaaGreat
open Go.MW Go.ChangeShapes Go.WideShapes Tryz
set_option maxRecDepth 100000
structure UZ where
 leg:Int
 mass:Int
 near:Bool
 ls:List Tri
 m:Int
 us:List Use
def QH(H:bG)(v:Value)(c:UZ):Prop:=∃vl vu,v= .agg #[I c.leg,I c.mass,.bool c.near,vl,I c.m,vu]∧RS H 3 vl (c.ls.map Tri.v)∧RU H vu c.us
theorem Nk:Tryz.prog.cellsOf 124=6:=by kernel_rfl
theorem Vj{α:Type}{l:List α}(h:l.length=6):∃a b c d e f,l=[a,b,c,d,e,f]:=by match l,h with|[a,b,c,d,e,f],_=>exact ⟨a,b,c,d,e,f,rfl⟩
section
variable{H:Type}{enc:TypeId×Value→H}{w:World}{sp:Nat→Bool}{held:Bool}{n:Nat}{cs:List Value}{y:DataW H×List MemPlace}{v:Value}{d:DataW H}{p:List MemPlace}{r:Reach}{base:Nat}
theorem EJ(hv:Value.okWide Tryz.prog w r base 124 v)(h:DataW.Trod enc Tryz.prog w 0 sp held 124 v d p)(hw:Wt Tryz.prog 124 d):∃c:UZ,QH (hp w) v c∧(I64 c.leg∧I64 c.mass):=by
 obtain ⟨cs,n,rfl,hn,_⟩:=A4 rE hv h;obtain ⟨ys,m,_,e,hlen,rI,hg⟩:=DataW.trod_struct rE hn;cases e
 rw [Nk] at hlen;obtain ⟨c0,c1,c2,c3,c4,c5,rfl⟩:=Vj hlen;obtain ⟨_,h0,k0⟩:=fld hg rI 0 rfl rfl rfl tT rE hw;obtain ⟨_,h1,k1⟩:=fld hg rI 1 rfl rfl rfl tT rE hw;obtain ⟨_,h2,k2⟩:=fld hg rI 2 rfl rfl rfl Ty rE hw;obtain ⟨_,h3,k3⟩:=fld hg rI 3 rfl rfl rfl Qp rE hw;obtain ⟨_,h4,k4⟩:=fld hg rI 4 rfl rfl rfl K3 rE hw;obtain ⟨x,e0,i0⟩:=As eh h0;obtain ⟨x1,e1,i1⟩:=As eh h1;obtain ⟨b,e2,_⟩:=DataW.trod_bool Ir h2;obtain ⟨vl,ls,e3,r3,_⟩:=RO k3 h3;obtain ⟨m,us,u,e4,r4,_,_⟩:=Pf k4 h4;cases e0;cases e1;cases e2;cases e3;cases e4
 exact ⟨⟨x,x1,b,ls,m,us⟩,⟨_,_,rfl,r3,r4⟩,i0,i1⟩
end
end Go.Proofs.YteajddicacjkhaaGreat
namespace Go.Proofs.YteajddicacjkhaaGreat
theorem Fq:Tryz.prog.make=some .cut:=by kernel_rfl
theorem Ca:Tryz.prog.mayEnter=true:=by kernel_rfl
theorem B7:Tryz.prog.liftsFinal=false:=by kernel_rfl
theorem Ft:Tryz.prog.plainKeys=true:=by kernel_rfl
theorem vM:laidOutB Tryz.prog=true:=by kernel_rfl
theorem Fp:mapsRowed Tryz.prog=true:=by kernel_rfl
theorem B9:Tryz.prog.stopsHeard=true:=by kernel_rfl
theorem B6:Tryz.prog.stops=[]:=by kernel_rfl
theorem B8:Tryz.prog.stopKnobs=[]:=by kernel_rfl
theorem fR{a b:Bool}(h:a=true)(k:b=true):(a&&b)=true:=by rw [h,k];rfl
theorem Fw{α:Type}[BEq α][LawfulBEq α]{a b:α}(h:a=b):(a==b)=true:=by rw [h];exact beq_self_eq_true _
theorem KX:ownKnob Tryz.prog.godebug=none:=by kernel_rfl
end Go.Proofs.YteajddicacjkhaaGreat
namespace Go.Proofs.YteajddicacjkhaaGreat
open Go.MW Tryz
variable{H:bG}{σ:List Ent}{a0 a1 a2 b x most a hi lo f d e:Int}{l:Lns}{ls:List Lim}{g k bf bt bl cl i bm:Nat}{cap sp:List Value}{s:Srv}{xs ts lf ws L X Y ks dm:List Int}{en:Ent}{vl vt vp vw vb vx v1 v2 bV bS vr vc vh vs v5 v4 fJ vn vg:Value}{m:Rng}{us:List Use}{t:TD}{rows:List (List Int)}{high:Bool}{P:Program}{ss:List Ssn}
theorem mix:Tryz.prog.follows .mixedOrders=true:=by kernel_rfl
theorem kS:FA Tryz.prog 25 0 0:=by
 have h:=fl (k:=0) FL rfl ak;exact h
theorem nA:FA Tryz.prog 25 1 1:=by
 have h:=fl (k:=1) FL rfl ak;exact h
theorem dQ:FA Tryz.prog 25 2 2:=by
 have h:=fl (k:=2) FL rfl sizeOf22;exact h
theorem gH:FA Tryz.prog 25 3 3:=by
 have h:=fl (k:=3) FL rfl sizeOf23;exact h
theorem bT:FA Tryz.prog 28 0 0:=by
 have h:=fl (k:=0) runUnderlying28 rfl sizeOf26;exact h
theorem qx:FA Tryz.prog 39 0 0:=by
 have h:=fl (k:=0) runUnderlying39 rfl aO;exact h
theorem jd:FA Tryz.prog 39 1 1:=by
 have h:=fl (k:=1) runUnderlying39 rfl sizeOf35;exact h
theorem lq:FA Tryz.prog 39 2 2:=by
 have h:=fl (k:=2) runUnderlying39 rfl sizeOf36;exact h
theorem qw:FA Tryz.prog 39 3 3:=by
 have h:=fl (k:=3) runUnderlying39 rfl aO;exact h
theorem bh:FA Tryz.prog 42 0 0:=by
 have h:=fl (k:=0) FJ rfl ak;exact h
theorem bu:FA Tryz.prog 42 1 1:=by
 have h:=fl (k:=1) FJ rfl ak;exact h
theorem qv:FA Tryz.prog 44 0 0:=by
 have h:=fl (k:=0) runUnderlying44 rfl sizeOf39;exact h
theorem qu:FA Tryz.prog 44 1 7:=by
 have h:=fl (k:=1) runUnderlying44 rfl aO;exact h
theorem qt:FA Tryz.prog 44 2 8:=by
 have h:=fl (k:=2) runUnderlying44 rfl sizeOf40;exact h
theorem cP:FA Tryz.prog 44 3 9:=by
 have h:=fl (k:=3) runUnderlying44 rfl aD;exact h
theorem oL:FA Tryz.prog 46 0 0:=by
 have h:=fl (k:=0) runUnderlying46 rfl ak;exact h
theorem oK:FA Tryz.prog 46 1 1:=by
 have h:=fl (k:=1) runUnderlying46 rfl ak;exact h
theorem Af:FA Tryz.prog 48 0 0:=by
 have h:=fl (k:=0) ux rfl ak;exact h
theorem ep:FA Tryz.prog 48 1 1:=by
 have h:=fl (k:=1) ux rfl ak;exact h
theorem bE:FA Tryz.prog 48 2 2:=by
 have h:=fl (k:=2) ux rfl aO;exact h
theorem aZ:FA Tryz.prog 48 3 3:=by
 have h:=fl (k:=3) ux rfl aO;exact h
theorem gE:FA Tryz.prog 48 4 4:=by
 have h:=fl (k:=4) ux rfl sizeOf46;exact h
theorem aK:FA Tryz.prog 52 0 0:=by
 have h:=fl (k:=0) runUnderlying52 rfl aT;exact h
theorem bq:FA Tryz.prog 52 1 6:=by
 have h:=fl (k:=1) runUnderlying52 rfl sizeOf49;exact h
theorem du:FA Tryz.prog 52 2 7:=by
 have h:=fl (k:=2) runUnderlying52 rfl sizeOf50;exact h
theorem eO:FA Tryz.prog 64 0 0:=by
 have h:=fl (k:=0) runUnderlying64 rfl sizeOf62;exact h
theorem jI:FA Tryz.prog 66 0 0:=by
 have h:=fl (k:=0) FI rfl ak;exact h
theorem pn:FA Tryz.prog 66 1 1:=by
 have h:=fl (k:=1) FI rfl ak;exact h
theorem pj:FA Tryz.prog 66 2 2:=by
 have h:=fl (k:=2) FI rfl ak;exact h
theorem ph:FA Tryz.prog 66 3 3:=by
 have h:=fl (k:=3) FI rfl fA;exact h
theorem wD:FA Tryz.prog 87 0 0:=by
 have h:=fl (k:=0) uw rfl ak;exact h
theorem lx:FA Tryz.prog 87 1 1:=by
 have h:=fl (k:=1) uw rfl ak;exact h
theorem j8:FA Tryz.prog 87 2 2:=by
 have h:=fl (k:=2) uw rfl ak;exact h
theorem dJ:FA Tryz.prog 87 3 3:=by
 have h:=fl (k:=3) uw rfl aD;exact h
theorem j7:FA Tryz.prog 87 4 5:=by
 have h:=fl (k:=4) uw rfl aD;exact h
theorem iK:FA Tryz.prog 100 0 0:=by
 have h:=fl (k:=0) jZ rfl ak;exact h
theorem iJ:FA Tryz.prog 100 1 1:=by
 have h:=fl (k:=1) jZ rfl ak;exact h
theorem iI:FA Tryz.prog 100 2 2:=by
 have h:=fl (k:=2) jZ rfl ak;exact h
theorem fi:FA Tryz.prog 100 3 3:=by
 have h:=fl (k:=3) jZ rfl ak;exact h
theorem dE:FA Tryz.prog 100 4 4:=by
 have h:=fl (k:=4) jZ rfl ak;exact h
theorem fh:FA Tryz.prog 100 5 5:=by
 have h:=fl (k:=5) jZ rfl ak;exact h
theorem fg:FA Tryz.prog 100 6 6:=by
 have h:=fl (k:=6) jZ rfl ak;exact h
theorem qz:FA Tryz.prog 104 0 0:=by
 have h:=fl (k:=0) CJ rfl ak;exact h
theorem ku:FA Tryz.prog 104 1 1:=by
 have h:=fl (k:=1) CJ rfl ak;exact h
theorem kr:FA Tryz.prog 104 2 2:=by
 have h:=fl (k:=2) CJ rfl ak;exact h
theorem qy:FA Tryz.prog 104 3 3:=by
 have h:=fl (k:=3) CJ rfl ak;exact h
theorem B1:FA Tryz.prog 113 0 0:=by
 have h:=fl (k:=0) Yr rfl ak;exact h
theorem kq:FA Tryz.prog 113 1 1:=by
 have h:=fl (k:=1) Yr rfl ak;exact h
theorem iA:FA Tryz.prog 113 2 2:=by
 have h:=fl (k:=2) Yr rfl ak;exact h
theorem gG:FA Tryz.prog 122 0 0:=by
 have h:=fl (k:=0) runUnderlying122 rfl ak;exact h
theorem eu:FA Tryz.prog 122 1 1:=by
 have h:=fl (k:=1) runUnderlying122 rfl sizeOf120;exact h
theorem oJ:FA Tryz.prog 124 0 0:=by
 have h:=fl (k:=0) Yq rfl ak;exact h
theorem km:FA Tryz.prog 124 1 1:=by
 have h:=fl (k:=1) Yq rfl ak;exact h
theorem oI:FA Tryz.prog 124 2 2:=by
 have h:=fl (k:=2) Yq rfl Nu;exact h
theorem oH:FA Tryz.prog 124 3 3:=by
 have h:=fl (k:=3) Yq rfl sizeOf119;exact h
theorem dK:FA Tryz.prog 134 0 0:=by
 have h:=fl (k:=0) runUnderlying134 rfl ak;exact h
theorem gv:FA Tryz.prog 134 1 1:=by
 have h:=fl (k:=1) runUnderlying134 rfl ak;exact h
theorem mL:FA Tryz.prog 140 0 0:=by
 have h:=fl (k:=0) CI rfl aC;exact h
theorem kn:FA Tryz.prog 140 2 12:=by
 have h:=fl (k:=2) CI rfl sizeOf26;exact h
theorem mK:FA Tryz.prog 140 3 13:=by
 have h:=fl (k:=3) CI rfl sizeOf80;exact h
theorem je:FA Tryz.prog 140 4 14:=by
 have h:=fl (k:=4) CI rfl aO;exact h
theorem jL:FA Tryz.prog 153 0 0:=by
 have h:=fl (k:=0) mu rfl ak;exact h
theorem lU:FA Tryz.prog 153 1 1:=by
 have h:=fl (k:=1) mu rfl ak;exact h
theorem lT:FA Tryz.prog 153 2 2:=by
 have h:=fl (k:=2) mu rfl ak;exact h
theorem jK:FA Tryz.prog 153 3 3:=by
 have h:=fl (k:=3) mu rfl ak;exact h
theorem lS:FA Tryz.prog 153 4 4:=by
 have h:=fl (k:=4) mu rfl ak;exact h
theorem jJ:FA Tryz.prog 153 5 5:=by
 have h:=fl (k:=5) mu rfl ak;exact h
theorem po:FA Tryz.prog 162 0 0:=by
 have h:=fl (k:=0) mq rfl ak;exact h
theorem lR:FA Tryz.prog 162 1 1:=by
 have h:=fl (k:=1) mq rfl ak;exact h
theorem bU:FA Tryz.prog 177 0 0:=by
 have h:=fl (k:=0) runUnderlying177 rfl ak;exact h
theorem bM:FA Tryz.prog 177 1 1:=by
 have h:=fl (k:=1) runUnderlying177 rfl sizeOf175;exact h
theorem gj:FA Tryz.prog 179 0 0:=by
 have h:=fl (k:=0) Yp rfl bg;exact h
theorem lk:FA Tryz.prog 179 1 2:=by
 have h:=fl (k:=1) Yp rfl aO;exact h
theorem eV:FA Tryz.prog 179 2 3:=by
 have h:=fl (k:=2) Yp rfl ak;exact h
theorem cW:FA Tryz.prog 190 0 0:=by
 have h:=fl (k:=0) Yo rfl ak;exact h
theorem cV:FA Tryz.prog 190 1 1:=by
 have h:=fl (k:=1) Yo rfl ak;exact h
theorem dY:FA Tryz.prog 190 2 2:=by
 have h:=fl (k:=2) Yo rfl ak;exact h
theorem dR:FA Tryz.prog 193 0 0:=by
 have h:=fl (k:=0) CH rfl ak;exact h
theorem ew:FA Tryz.prog 193 1 1:=by
 have h:=fl (k:=1) CH rfl ak;exact h
theorem fE:FA Tryz.prog 193 2 2:=by
 have h:=fl (k:=2) CH rfl ak;exact h
theorem kT:FA Tryz.prog 193 3 3:=by
 have h:=fl (k:=3) CH rfl ak;exact h
theorem lr:FA Tryz.prog 199 0 0:=by
 have h:=fl (k:=0) runUnderlying199 rfl ak;exact h
theorem j6:FA Tryz.prog 199 1 1:=by
 have h:=fl (k:=1) runUnderlying199 rfl ak;exact h
theorem vJ:FA Tryz.prog 236 0 0:=by
 have h:=fl (k:=0) Yn rfl sizeOf233;exact h
theorem vI:FA Tryz.prog 236 1 1:=by
 have h:=fl (k:=1) Yn rfl sizeOf234;exact h
theorem vH:FA Tryz.prog 236 2 2:=by
 have h:=fl (k:=2) Yn rfl ak;exact h
theorem db:FA Tryz.prog 241 0 0:=by
 have h:=fl (k:=0) runUnderlying241 rfl jt;exact h
theorem fI:FA Tryz.prog 241 1 3:=by
 have h:=fl (k:=1) runUnderlying241 rfl aT;exact h
theorem dy:FA Tryz.prog 246 0 0:=by
 have h:=fl (k:=0) Ym rfl aC;exact h
theorem gq:FA Tryz.prog 246 1 8:=by
 have h:=fl (k:=1) Ym rfl sizeOf159;exact h
theorem kl:FA Tryz.prog 246 2 9:=by
 have h:=fl (k:=2) Ym rfl sizeOf175;exact h
theorem fN:FA Tryz.prog 272 0 0:=by
 have h:=fl (k:=0) Yl rfl bg;exact h
theorem gV:FA Tryz.prog 272 1 2:=by
 have h:=fl (k:=1) Yl rfl aO;exact h
theorem dP:FA Tryz.prog 272 2 3:=by
 have h:=fl (k:=2) Yl rfl aO;exact h
theorem dk:FA Tryz.prog 303 0 0:=by
 have h:=fl (k:=0) CG rfl ak;exact h
theorem dt:FA Tryz.prog 303 1 1:=by
 have h:=fl (k:=1) CG rfl ak;exact h
theorem fM:FA Tryz.prog 303 2 2:=by
 have h:=fl (k:=2) CG rfl ak;exact h
theorem dO:FA Tryz.prog 303 3 3:=by
 have h:=fl (k:=3) CG rfl ak;exact h
theorem iO:FA Tryz.prog 315 0 0:=by
 have h:=fl (k:=0) runUnderlying315 rfl ak;exact h
theorem kU:FA Tryz.prog 315 1 1:=by
 have h:=fl (k:=1) runUnderlying315 rfl ak;exact h
theorem rK:FA Tryz.prog 317 0 0:=by
 have h:=fl (k:=0) runUnderlying317 rfl aO;exact h
theorem ug:rR Tryz.prog 25 [(0,1),(1,1),(2,1),(3,1)] [I 0,I 0,.slice none 0 0,.slice none 0 0]:=kA jY rfl FL bB
theorem me:rR Tryz.prog 28 [(0,1)] [.slice none 0 0]:=kA lF rfl runUnderlying28 bB
theorem bQ:rR Tryz.prog 42 [(0,1),(1,1)] [I 0,I 0]:=kA cS rfl FJ bB
theorem wF:rR Tryz.prog 46 [(0,1),(1,1)] [I 0,I 0]:=kA zeroValue46 rfl runUnderlying46 bB
theorem uf:rR Tryz.prog 48 [(0,1),(1,1),(2,1),(3,1),(4,2)] [I 0,I 0,.slice none 0 0,.slice none 0 0,I 0,I 0]:=kA rD rfl ux bB
theorem jE:rR Tryz.prog 52 [(0,6),(6,1),(7,1)] [I 0,I 0,.slice none 0 0,.slice none 0 0,I 0,I 0,.slice none 0 0,.slice none 0 0]:=kA eg rfl runUnderlying52 bB
theorem qK:rR Tryz.prog 64 [(0,1)] [.slice none 0 0]:=kA zB rfl runUnderlying64 bB
theorem zj:rR Tryz.prog 66 [(0,1),(1,1),(2,1),(3,1)] [I 0,I 0,I 0,.slice none 0 0]:=kA zeroValue66 rfl FI bB
theorem mN:rR Tryz.prog 87 [(0,1),(1,1),(2,1),(3,2),(5,2)] [I 0,I 0,I 0,I 0,I 0,I 0,I 0]:=kA dM rfl uw bB
theorem dC:rR Tryz.prog 100 [(0,1),(1,1),(2,1),(3,1),(4,1),(5,1),(6,1)] [I 0,I 0,I 0,I 0,I 0,I 0,I 0]:=kA dZ rfl jZ bB
theorem nE:rR Tryz.prog 104 [(0,1),(1,1),(2,1),(3,1)] [I 0,I 0,I 0,I 0]:=kA Ee rfl CJ bB
theorem qJ:rR Tryz.prog 113 [(0,1),(1,1),(2,1)] [I 0,I 0,I 0]:=kA zeroValue113 rfl Yr bB
theorem iB:rR Tryz.prog 122 [(0,1),(1,1)] [I 0,.slice none 0 0]:=kA iZ rfl runUnderlying122 bB
theorem gW:rR Tryz.prog 134 [(0,1),(1,1)] [I 0,I 0]:=kA oT rfl runUnderlying134 bB
theorem gI:rR Tryz.prog 140 [(0,8),(8,4),(12,1),(13,1),(14,1)] [I 0,I 0,.slice none 0 0,.slice none 0 0,I 0,I 0,.slice none 0 0,.slice none 0 0,I 0,I 0,.slice none 0 0,.slice none 0 0,.slice none 0 0,.slice none 0 0,.slice none 0 0]:=kA uF rfl CI bB
theorem qL:rR Tryz.prog 153 [(0,1),(1,1),(2,1),(3,1),(4,1),(5,1)] [I 0,I 0,I 0,I 0,I 0,I 0]:=kA Ed rfl mu bB
theorem jh:rR Tryz.prog 162 [(0,1),(1,1)] [I 0,I 0]:=kA uE rfl mq bB
theorem nD:rR Tryz.prog 177 [(0,1),(1,1)] [I 0,.slice none 0 0]:=kA gZ rfl runUnderlying177 bB
theorem gP:rR Tryz.prog 179 [(0,2),(2,1),(3,1)] [I 0,.slice none 0 0,.slice none 0 0,I 0]:=kA oS rfl Yp bB
theorem ue:rR Tryz.prog 190 [(0,1),(1,1),(2,1)] [I 0,I 0,I 0]:=kA oR rfl Yo bB
theorem eP:rR Tryz.prog 193 [(0,1),(1,1),(2,1),(3,1)] [I 0,I 0,I 0,I 0]:=kA fQ rfl CH bB
theorem Fv:rR Tryz.prog 199 [(0,1),(1,1)] [I 0,I 0]:=kA Rm rfl runUnderlying199 bB
theorem jO:rR Tryz.prog 236 [(0,1),(1,1),(2,1)] [.nilFunc,.nilFunc,I 0]:=kA zeroValue236 rfl Yn bB
theorem xj:rR Tryz.prog 241 [(0,3),(3,6)] [I 0,I 0,I 0,I 0,I 0,.slice none 0 0,.slice none 0 0,I 0,I 0]:=kA zeroValue241 rfl runUnderlying241 bB
theorem vP:rR Tryz.prog 246 [(0,8),(8,1),(9,1)] [I 0,I 0,.slice none 0 0,.slice none 0 0,I 0,I 0,.slice none 0 0,.slice none 0 0,.slice none 0 0,.slice none 0 0]:=kA zeroValue246 rfl Ym bB
theorem rO:rR Tryz.prog 272 [(0,2),(2,1),(3,1)] [I 0,.slice none 0 0,.slice none 0 0,.slice none 0 0]:=kA zeroValue272 rfl Yl bB
theorem rN:rR Tryz.prog 303 [(0,1),(1,1),(2,1),(3,1)] [I 0,I 0,I 0,I 0]:=kA gY rfl CG bB
theorem Cg:rR Tryz.prog 315 [(0,1),(1,1)] [I 0,I 0]:=kA zeroValue315 rfl runUnderlying315 bB
theorem Cf:rR Tryz.prog 317 [(0,1)] [.slice none 0 0]:=kA zeroValue317 rfl runUnderlying317 bB
theorem pL:uD Tryz.prog 22 2 2 [I 0,I 0,I 0,I 0]:=lC ea fS oT ef az
theorem pK:uD Tryz.prog 22 3 2 [I 0,I 0,I 0,I 0,I 0,I 0]:=lC ea fS oT ef az
theorem sN:uD Tryz.prog 23 0 4 []:=lC jn pO Ee ef az
theorem jX:uD Tryz.prog 23 1 4 [I 0,I 0,I 0,I 0]:=lC jn pO Ee ef az
theorem xi:uD Tryz.prog 26 0 7 []:=lC a8 bk dM ef az
theorem lY:uD Tryz.prog 26 1 7 [I 0,I 0,I 0,I 0,I 0,I 0,I 0]:=lC a8 bk dM ef az
theorem lX:uD Tryz.prog 26 2 7 [I 0,I 0,I 0,I 0,I 0,I 0,I 0,I 0,I 0,I 0,I 0,I 0,I 0,I 0]:=lC a8 bk dM ef az
theorem wE:uD Tryz.prog 34 0 1 []:=lC af ak dw ef az
theorem cQ:uD Tryz.prog 34 1 1 [I 0]:=lC af ak dw ef az
theorem lB:uD Tryz.prog 34 2 1 [I 0,I 0]:=lC af ak dw ef az
theorem DY:uD Tryz.prog 34 3 1 [I 0,I 0,I 0]:=lC af ak dw ef az
theorem rz:uD Tryz.prog 49 0 7 []:=lC bn bD dZ ef az
theorem jB:uD Tryz.prog 49 1 7 [I 0,I 0,I 0,I 0,I 0,I 0,I 0]:=lC bn bD dZ ef az
theorem ru:uD Tryz.prog 49 4 7 [I 0,I 0,I 0,I 0,I 0,I 0,I 0,I 0,I 0,I 0,I 0,I 0,I 0,I 0,I 0,I 0,I 0,I 0,I 0,I 0,I 0,I 0,I 0,I 0,I 0,I 0,I 0,I 0]:=lC bn bD dZ ef az
theorem rA:uD Tryz.prog 50 0 6 []:=lC dF kd Ed ef az
theorem ma:uD Tryz.prog 50 1 6 [I 0,I 0,I 0,I 0,I 0,I 0]:=lC dF kd Ed ef az
theorem rM:uD Tryz.prog 62 1 1 [.slice none 0 0]:=lC aF aO gX ef az
theorem Ai:uD Tryz.prog 62 2 1 [.slice none 0 0,.slice none 0 0]:=lC aF aO gX ef az
theorem kz:uD Tryz.prog 80 1 2 [I 0,I 0]:=lC cn aD cS ef az
theorem pq:uD Tryz.prog 120 0 2 []:=lC dx mZ Rm ef az
theorem xh:uD Tryz.prog 120 1 2 [I 0,I 0]:=lC dx mZ Rm ef az
theorem jA:uD Tryz.prog 159 1 2 [I 0,I 0]:=lC bR cZ uE ef az
theorem ud:uD Tryz.prog 175 1 4 [I 0,I 0,I 0,I 0]:=lC aU bO fQ ef az
theorem gx:uD Tryz.prog 175 2 4 [I 0,I 0,I 0,I 0,I 0,I 0,I 0,I 0]:=lC aU bO fQ ef az
theorem Ce:uD Tryz.prog 247 6 1 [.nilFunc,.nilFunc,.nilFunc,.nilFunc,.nilFunc,.nilFunc]:=lC runUnderlying247 sizeOf1 zeroValue1 ef az
theorem sM:uD Tryz.prog 267 1 4 [I 0,I 0,I 0,I 0]:=lC aH aV gY ef az
theorem fy:Ip Tryz.prog 23 23 104 4 32:=⟨jn,jn,pO,⟨_,typeInfo104,rfl,by decide⟩,⟨_,Ee,rfl⟩⟩
theorem kI:Ip Tryz.prog 26 26 87 7 56:=⟨a8,a8,bk,⟨_,typeInfo87,rfl,by decide⟩,⟨_,dM,rfl⟩⟩
theorem cI:Ip Tryz.prog 34 34 3 1 8:=⟨af,af,ak,⟨_,pN,rfl,by decide⟩,⟨_,dw,rfl⟩⟩
theorem dL:Ip Tryz.prog 49 49 100 7 56:=⟨bn,bn,bD,⟨_,typeInfo100,rfl,by decide⟩,⟨_,dZ,rfl⟩⟩
theorem ij:Ip Tryz.prog 50 50 153 6 48:=⟨dF,dF,kd,⟨_,typeInfo153,rfl,by decide⟩,⟨_,Ed,rfl⟩⟩
theorem mO:Ip Tryz.prog 62 62 34 1 24:=⟨aF,aF,aO,⟨_,typeInfo34,rfl,by decide⟩,⟨_,gX,rfl⟩⟩
theorem jv:Ip Tryz.prog 80 80 42 2 16:=⟨cn,cn,aD,⟨_,typeInfo42,rfl,by decide⟩,⟨_,cS,rfl⟩⟩
theorem fP:Ip Tryz.prog 120 120 199 2 16:=⟨dx,dx,mZ,⟨_,typeInfo199,rfl,by decide⟩,⟨_,Rm,rfl⟩⟩
theorem eW:Ip Tryz.prog 159 159 162 2 16:=⟨bR,bR,cZ,⟨_,typeInfo162,rfl,by decide⟩,⟨_,uE,rfl⟩⟩
theorem cK:Ip Tryz.prog 175 175 193 4 32:=⟨aU,aU,bO,⟨_,typeInfo193,rfl,by decide⟩,⟨_,fQ,rfl⟩⟩
theorem mg:Ip Tryz.prog 267 267 303 4 32:=⟨aH,aH,aV,⟨_,Yk,rfl,by decide⟩,⟨_,gY,rfl⟩⟩
theorem ee{w:World}(hs:St H w σ):Z4 199 [I a0,I a1,I a2] w fun v w'=>v= .bool (decide (a1≤a0∧a0≤a2))∧St H w' σ:=by
 refine Cl.o func199 ntmps199 ag3 ?_;refine .ae (.zn zg (.ae (.z zm (.z zm (.z sY (.z zm (.iY (t':=10) rfl (fun sH=>?_) (fun sH=>?_))))))))
 ·exact .T (.z zm (.T (.z zm (.T (.z sY (.z zpT (.zn zg (.ret (Fin.bw results199 rfl ⟨by simp [*],hs.out⟩)))))))))
 ·exact .Fs 3 3 true (.z zpF (.zn zg (.ret (Fin.bw results199 rfl ⟨by simp [*],hs.out⟩))))
theorem tY{w:World}{many:Int}{l:Lim}(hs:St H w σ):Z4 250 [I many,.agg l.c.toArray] w fun v w'=>v= .bool (l.ok many)∧St H w' σ:=by
 refine Cl.o func250 ntmps250 ag2 ?_;refine .ae (.bx hs fun b3 w hs=>?_);refine .zn zg (.ae (.z (zfa dR) (.y hs (zld aj) (.z zm (.o (.call NA rfl (ee hs) ?_))))));rintro _ w ⟨rfl,hs⟩;refine .z zm (.bif (t':=9) rfl (fun SZ=>?_) (fun SZ=>?_))
 ·refine .T (.z (zfa ew) (.T (.y hs (zld aj) (.T (.z zm (.T (.o (.call NA rfl (ee hs) ?_))))))));rintro _ w ⟨rfl,hs⟩;refine .z zpT (.z zm (.bif (t':=15) rfl (fun DB=>?_) (fun DB=>?_)))
  ·refine .T (.z (zfa dR) (.T (.y hs (zld aj) (.T (.z (zfa ew) (.T (.y hs (zld aj) (.T (.z ez (.z zpT (.z zm (.Eo (t':=22) rfl (fun P8=>?_) (fun P8=>?_)))))))))))))
   ·refine .T (.z (zfa fE) (.T (.y hs (zld aj) (.T (.o (.call NA rfl (ee hs) ?_))))));rintro _ w ⟨rfl,hs⟩;refine .z zpT (.z zm (.bif (t':=27) rfl (fun tM=>?_) (fun tM=>?_)))
    ·refine .T (.z (zfa kT) (.T (.y hs (zld aj) (.T (.o (.call NA rfl (ee hs) ?_))))));rintro _ w ⟨rfl,hs⟩;exact .z zpT (.zn zg (.ret (Fin.bw results250 rfl ⟨by simp [Lim.ok, *],hs.out⟩)))
    ·exact .Fs 3 22 true (.z zpF (.zn zg (.ret (Fin.bw results250 rfl ⟨by simp [Lim.ok, *],hs.out⟩))))
   ·exact .Fs 3 17 true (.z zpF (.z zm (.Fs 3 22 true (.z zpF (.zn zg (.ret (Fin.bw results250 rfl ⟨by simp [Lim.ok, *],hs.out⟩)))))))
  ·exact .Fs 5 10 true (.z zpF (.z zm (.Fs 3 17 true (.z zpF (.z zm (.Fs 3 22 true (.z zpF (.zn zg (.ret (Fin.bw results250 rfl ⟨by simp [Lim.ok, *],hs.out⟩))))))))))
 ·exact .Fs 4 4 true (.z zpF (.z zm (.Fs 5 10 true (.z zpF (.z zm (.Fs 3 17 true (.z zpF (.z zm (.Fs 3 22 true (.z zpF (.zn zg (.ret (Fin.bw results250 rfl ⟨by simp [Lim.ok, *],hs.out⟩)))))))))))))
theorem Cq{w:World}{v:Value}{p:Lim→Bool}(hs:St H w σ)(hr:RL H v ls)
  (hc:∀args w,(callFunc g args).run Tryz.prog w= .ok (.enter g args) w) (hp:∀w l,St H w σ→Z4 g ([.agg l.c.toArray]++cap) w fun u w'=>u= .bool (p l)∧St H w' σ):
  Z4 277 [v,.func (.func g) #[] cap.toArray] w fun u w'=>u=I (match ls.findIdx? p with|some k=>(k:Int)|none=> -1)∧St H w' σ:=by
 obtain ⟨a,c,rfl⟩:=RS.shape hr;have hl:=(RS.len hr).2.2;refine Cl.o func277 ntmps277 ag2 ?_;refine .ae (.zn zg (.seq (.ae (.z zm (.q hs (Je hr rfl aU) (.zn zm (.for (N:=(ls.map Lim.c).length) (J:=fun k fr w=>fr=[(1,.func (.func g) #[] cap.toArray),(0,.slice a (ls.map Lim.c).length c)]∧St H w σ∧∀j<k,∀l,ls[j]? =some l→p l=false) ai ?_ ?_ ?_)))))))
 ·exact .mk ⟨rfl,hs,fun j hj=>by omega⟩
 ·rintro k fr w hk ⟨rfl,hs,fV⟩;obtain ⟨l,hl⟩:=nth (l:=ls) (by simpa using hk);refine .block (.ae (.z zm (.zn zg (.ae (.z zm (.z zm (.z zm (.ixX hs hr rfl rfl aU bO hl rfl ?_))))))));intro ka o14 js;refine .y hs (zls [_,_,_,_] kE bO) (.o (.qB (first:=[]) rfl rfl hc (hp _ _ hs) ?_));rintro _ w ⟨rfl,hs⟩;refine .nil (.cond rfl (fun dN=>?_) (fun dN=>?_))
  ·exact .ae (.z zm (.zn zg (.ret (rB (rT (rB (rT (Fin.bw results277 rfl ⟨by rw [y9 hl dN fV],hs⟩))))))))
  ·exact .skip (nB (nT (.mk ⟨rfl,hs,fY fV hl dN⟩)))
 ·rintro fr w ⟨rfl,hs,fV⟩;exact nT (.ae (.zn zg (.ret (Fin.bw results277 rfl ⟨by rw [wC (by simpa using fV)],hs⟩))))
theorem xn{w:World}{v:Value}{p:Lim→Bool}(hs:St H w σ)(hr:RL H v ls)
  (hc:∀args w,(callFunc g args).run Tryz.prog w= .ok (.enter g args) w) (hp:∀w l,St H w σ→Z4 g ([.agg l.c.toArray]++cap) w fun u w'=>u= .bool (p l)∧St H w' σ):
  Z4 248 [v,.func (.func g) #[] cap.toArray] w fun u w'=>u= .bool (ls.any p)∧St H w' σ:=by
 refine Cl.o func248 ntmps248 ag2 ?_;refine .ae (.zn zg (.ae (.z zm (.z zm (.o (.call call277 rfl (Cq hs hr hc hp) ?_))))));rintro _ w ⟨rfl,hs⟩;exact .z Ct (.zn zg (.ret (Fin.bw results248 rfl ⟨by rw [Fy];cases ls.findIdx? p<;>simp<;>omega,hs⟩)))
theorem Cd{w:World}{b:Nat}{many:Int}{v:Value}{l:Lim}(hs:St H w σ)(hm:Mem σ (.blk b [I many,v])):Z4 249 [.agg l.c.toArray,Pt b] w fun v w'=>v= .bool (!l.ok many)∧St H w' σ:=by
 refine Cl.o func249 ntmps249 ag2 ?_;refine .ae (.bx hs fun b2 w hs=>?_);refine .zn zg (.ae (.z (zfa bU) (.q hs (ja rfl aj (.there hm) rfl) (.q hs (mD (vs:=l.c) rfl kE bO) (.o (.call call250 rfl (tY hs) ?_))))));rintro _ w ⟨rfl,hs⟩;exact .z ia (.zn zg (.ret (Fin.bw results249 rfl ⟨rfl,hs.out⟩)))
theorem jN{w:World}{v:Value}{s:cM}(hs:St H w σ)(hr:RSy H v s):Z4 197 [v] w fun v w'=>v=I s.check∧St H w' σ:=by
 obtain ⟨u,rfl,hr⟩:=hr;obtain ⟨a,c,rfl⟩:=RS.shape hr;refine Cl.o func197 ntmps197 ag1 ?_;refine .ae (.bx hs fun b1 w hs=>?_);refine .zn zg (.seq (.block (.ae (.z (zfa bU) (.y hs (zld aj) (.o (.call NA rfl (ee hs) ?_)))))));rintro _ w ⟨rfl,hs⟩;refine .z ia (.zn zg (.cond rfl (fun hc3=>?_) (fun hc3=>?_)))
 ·exact .ae (.zn zg (.ret (rB (rT (Fin.bw results197 rfl ⟨congrArg I (by unfold cM.check;(repeat' split)<;>simp_all<;>omega),hs.out⟩)))))
 ·refine .ae (.z (zfa bM) (.y hs (zld eL) (.q hs (Je hr rfl aU) (.z nJ (.zn zg (.cg rfl (fun CA=>?_) (fun CA=>?_)))))))
  ·exact .ae (.zn zg (.ret (rB (rT (Fin.bw results197 rfl ⟨congrArg I (by unfold cM.check;(repeat' split)<;>simp_all<;>omega),hs.out⟩)))))
  ·refine .ae (.z (zfa bM) (.y hs (zld eL) (.q hs (dp (f:=[]) (c:=[_]) rfl rfl) (.o (.call call248 rfl (xn (p:=fun l=> !l.ok s.many) hs hr call249 (fun w l hs=>Cd hs .here)) ?_)))));rintro _ w ⟨rfl,hs⟩;refine .zn zg (.cond rfl (fun iz=>?_) (fun iz=>?_))
   ·exact .ae (.zn zg (.ret (rB (rT (Fin.bw results197 rfl ⟨congrArg I (by unfold cM.check;(repeat' split)<;>simp_all<;>omega),hs.out⟩)))))
   ·exact .skip (nB (nT (.ae (.zn zg (.ret (Fin.bw results197 rfl ⟨congrArg I (by unfold cM.check;(repeat' split)<;>simp_all<;>omega),hs.out⟩))))))
theorem tV{b:Nat}{s:cM}{u:Value}(aJ:s.Ok)(hb:Row H b [I s.many,u])(hr:RL H u s.cJ):ItA Tryz.prog 295 [Pt b] H s.da:=by
 intro l II Ix _ _ hy H0 FO σf w hle AT hs;obtain ⟨a,c,rfl⟩:=RS.shape hr;have CB:cellAt H0 b 1=some (.slice a (s.cJ.map Lim.c).length c):=cellAt.mono (by rw [hb.cell];rfl) hle;have hlen:=aJ.len;refine Cl.o func295 ntmps295 ag2 ?_;refine .ae (.z (zfa bM) (.y hs (zld eL) (.q hs (Je (hr.mono hle) rfl aU) (.zn zm (.for (N:=(s.cJ.map Lim.c).length) (J:=fun k fr w=>fr=[(6,.slice a (s.cJ.map Lim.c).length c),(0,.func (.yield l) #[] #[])]∧∃H1 σb,HLe H H1∧HLe H0 H1∧II k H1 σb∧St H1 w (σb++σf)) (by simp;omega) ?_ ?_ ?_)))))
 ·exact .mk ⟨rfl,H0,FO,hle,HLe.refl _,AT,hs⟩
 ·rintro k fr w hk ⟨rfl,H1,σb,aq,eY,hI,hs⟩;obtain ⟨x,hx⟩:=nth (l:=s.cJ) (by simpa using hk);obtain ⟨hA,hB,_⟩:=aJ.arc (List.mem_of_getElem? hx) k;refine .block (.ae (.z zm (.ixX hs (hr.mono aq) rfl rfl aU bO hx rfl ?_)));intro sO o11 mX;refine .q hs (bH (vs:=x.c) rfl kE bO mX) (.o (.alloc hs fQ rfl fun b4 w hs=>?_));refine .z zg (.o (.aE (vs:=x.c) hs rfl rfl bO fun w hs=>?_));refine .nil (.ae (.z zm (.z (zfa dR) (.y hs (zld aj) (.z (zfa ew) (.y hs (zld aj) (.z (zfa fE) (.y hs (zld aj) (.z zm (.z (zbd [_,_,_,_] rN) ?_))))))))));have pQ:k<(s.da.map fun x=>[Value.agg x.v.toArray]).length:=by simp [cM.da,dU];simpa using hk
  have Iv:(s.da.map fun x=>[Value.agg x.v.toArray])[k]=[.agg (x.arc k).v.toArray]:=by
   have:=kQ hx;rw [List.getElem_map];rw [List.getElem?_eq_some_iff] at this;obtain ⟨h1,h2⟩:=this;simp only [cM.da];rw [h2]
  have zE:=hy k pQ H1 σb σf w aq hI hs.tail;rw [Iv] at zE;refine .o (.yield (vs:=[.agg (x.arc k).v.toArray]) rfl (by simp [Arc.v,hA,hB];rfl) zE ?_);rintro v22 w ⟨H2,σ2,g1,hs,g3⟩;obtain ⟨bb,rfl,gT,gF⟩:=pT g3;refine .zn ia (.cond rfl (fun yV=>?_) (fun yV=>?_))
  ·exact .ret (rB (rT (rB (Fin.QR results295 ⟨H2,σ2,eY.trans g1,hs,.inr (gF (by simpa using yV))⟩))))
  ·exact .skip (nB (nT (.mk ⟨rfl,H2,σ2,aq.trans g1,eY.trans g1,gT (by simpa using yV),hs⟩)))
 ·rintro fr w ⟨rfl,H1,σb,aq,eY,hI,hs⟩;exact Fin.DS results295 ⟨H1,σb,eY,hs,.inl (by simpa [cM.da,dU] using hI)⟩
theorem lW{w:World}{v:Value}{s:cM}(hs:St H w σ)(aJ:s.Ok)(hr:RSy H v s):
  Z4 269 [v] w fun v w'=>∃H1 b,HLe H H1∧v= .func (.func 295) #[] #[Pt b]∧ItA Tryz.prog 295 [Pt b] H1 s.da∧St H1 w' σ:=by
 obtain ⟨u,rfl,hr⟩:=hr;refine Cl.o func269 ntmps269 ag1 ?_;refine .ae (.bx hs fun b1 w hs=>?_);refine .zn zg (.ae (.q hs (dp (f:=[]) (c:=[_]) rfl rfl) (.zn zg (.ret (Fin.bw results269 rfl ?_)))));obtain ⟨H1,g1,g2,hs⟩:=hs.bZ .here;exact ⟨H1,b1,g1,rfl,tV aJ g2 (hr.mono g1),hs⟩
theorem kv{w:World}{N gf:Nat}{ar:List Arc}(hs:St H w σ)(hN:N≤64)(aJ:pv ar (N+1))(pF:ItA Tryz.prog gf cap H ar)(hc:∀args w,(callFunc gf args).run Tryz.prog w= .ok (.enter gf args) w):
  Z4 225 [I N,.func (.func gf) #[] cap.toArray] w fun v w'=>∃H1 bc bb s ov vo,HLe H H1∧v= .tuple #[.slice (some ⟨bc,0,none⟩) (N+1) (N+1),.slice (some ⟨bb,0,none⟩) (N+1) (N+1),vo]∧OvR H1 vo ov∧TN (N+1) ar s ov∧St H1 w' (.blk bc (Is s.cost):: .blk bb (kB s.by_)::σ):=by
 refine Cl.o func225 ntmps225 ag2 ?_;refine .ae (.o (.alloc hs gX rfl fun b4 w hs=>?_));refine .o (.alloc hs zeroValue267 rfl fun b5 w hs=>?_);refine .o (.alloc hs zeroValue268 rfl fun b6 w hs=>?_);refine .nil (.cut (fun fs w=>∃bc bb,mT fs ⟨70,[],[(1,.func (.func gf) #[] cap.toArray),(0,I N),(4,Pt b4),(5,Pt b5),(6,Pt b6)]⟩∧St H w (.blk b4 [.slice (some ⟨bc,0,none⟩) (N+1) (N+1)]:: .blk b5 [.slice (some ⟨bb,0,none⟩) (N+1) (N+1)]:: .blk b6 [.pointer none]:: .blk bc (Is (List.replicate (N+1) 0)):: .blk bb (kB (EN (N+1) 0))::σ)) ?_ ?_)
 ·refine .draw mix rfl hs fun w hs=>?_
  refine .zw 0 rfl zm ?_;refine .z 1 rfl cD ?_;refine .z 3 rfl zm ?_;refine .z 4 rfl cD ?_;refine .e2 (i:=2) (j:=5) az rfl rfl rfl rfl .none .none hs ?_ ?_
  ·refine .BJ (N+1) hs rfl rfl af pN rfl ak dw ai ?_;intro sO w hs;refine .go (.e2 (i:=5) (j:=6) az rfl rfl rfl rfl .none .none hs ?_ ?_)
   ·refine .Mu (N+1) hs rfl rfl aH Yk rfl aV gY ai ?_;intro ka w hs;refine .go (.E 6 hs ?_);refine .store hs rfl rfl aO ?_;intro w hs;refine .go (.E 7 hs ?_);refine .store hs rfl rfl TT ?_;intro w hs;exact .go (.D hs (nT ⟨sO,ka,aW,hs.sb⟩))
   ·refine .store hs rfl rfl aO ?_;intro w hs;refine .go (.E 5 hs ?_);refine .Mu (N+1) hs rfl rfl aH Yk rfl aV gY ai ?_;intro ka w hs;refine .go (.E 7 hs ?_);refine .store hs rfl rfl TT ?_;intro w hs;exact .go (.D hs (nT ⟨sO,ka,aW,hs.sb⟩))
  ·refine .Mu (N+1) hs rfl rfl aH Yk rfl aV gY ai ?_;intro ka w hs;refine .go (.E 2 hs ?_);refine .BJ (N+1) hs rfl rfl af pN rfl ak dw ai ?_;intro sO w hs;refine .go (.E 6 hs ?_);refine .store hs rfl rfl aO ?_;intro w hs;refine .go (.E 7 hs ?_);refine .store hs rfl rfl TT ?_;intro w hs;exact .go (.D hs (nT ⟨sO,ka,aW,hs.sb⟩))
 ·rintro s w ⟨bc,bb,iR,hs⟩;refine WE.sub ?_ iR;refine .seq (.ae (.y hs (zld mc) (.z (de aH) (.zn zm (.for (N:=N+1) (J:=fun k fr w=>fr=[(1,.func (.func gf) #[] cap.toArray),(0,I N),(4,Pt b4),(5,Pt b5),(6,Pt b6)]∧St H w (.blk b4 [.slice (some ⟨bc,0,none⟩) (N+1) (N+1)]:: .blk b5 [.slice (some ⟨bb,0,none⟩) (N+1) (N+1)]:: .blk b6 [.pointer none]:: .blk bc (Is (List.replicate (N+1) 0)):: .blk bb (kB (EN (N+1) k))::σ)) ai ?_ ?_ ?_)))))
  ·exact .mk ⟨rfl,hs⟩
  ·rintro k fr w hk ⟨rfl,hs⟩;have sV:k<(EN (N+1) k).length:=by rw [EM ai];exact hk
   refine .block (.ae (.z zm (.zn zg (.region (.y hs (zld mc) (.z zm ?_))))));first|(refine .ixw hs aH aV ?_;intro No o22 jc)|refine .z (CO aH aV) ?_
   refine .z (zfa dO) (.o (.store hs rfl rfl ak ?_ eJ (GP sV ai) ((Eb sV _).trans (congrArg kB (Ms hk)))));intro w hs;exact .nil (nB (nT (.mk ⟨rfl,hs⟩)))
  ·rintro fr w ⟨rfl,hs⟩;refine nT (.seq (.ae (.z zm (.z cD (.zn zm (.forD (N:=N+2) (J:=fun r ds fr w=>fr=[(1,.func (.func gf) #[] cap.toArray),(0,I N),(4,Pt b4),(5,Pt b5),(6,Pt b6)]∧∃Ds H1 s vo,ds=marks Ds∧HLe H H1∧zL (N+1) ar r 0 none s∧(r=0∨∃x,OvR H1 vo (some x)∧zL (N+1) ar (r - 1) ar.length (some x) s)∧St H1 w (.blk b4 [.slice (some ⟨bc,0,none⟩) (N+1) (N+1)]:: .blk b5 [.slice (some ⟨bb,0,none⟩) (N+1) (N+1)]:: .blk b6 [vo]:: .blk bc (Is s.cost):: .blk bb (kB s.by_)::(mes Ds++σ))) ai ?_ ?_ ?_))))))
   ·exact .mk (ds:=[]) ⟨rfl,[],H,⟨List.replicate (N+1) 0,List.replicate (N+1) ⟨0,0,0,-1⟩⟩,_,rfl,HLe.refl _,zL.init ai,.inl rfl,by rw [Jx] at hs;exact hs⟩
   ·rintro r ds fr w hr ⟨rfl,Ds,H1,s,vo,rfl,aq,ZE,-,hs⟩;refine .block (.ae (.o (.store hs rfl rfl sizeOf268 fun w hs=>?_)));refine .nil (.seq (.ae (.zn zm (.block ?_))));refine .rangeFunc (gf:=gf) (cap:=cap) (xs:=ar.map fun x=>[.agg x.v.toArray]) (σb:=[.blk b4 [.slice (some ⟨bc,0,none⟩) (N+1) (N+1)],.blk b5 [.slice (some ⟨bb,0,none⟩) (N+1) (N+1)],.blk b6 [.pointer none],.blk bc (Is s.cost),.blk bb (kB s.by_)]) (σf:=mes Ds++σ) hs trivial rfl (pF.mono aq) hc bB rfl
     (I:=fun k H' σb=>∃s ov vo,σb=[.blk b4 [.slice (some ⟨bc,0,none⟩) (N+1) (N+1)],.blk b5 [.slice (some ⟨bb,0,none⟩) (N+1) (N+1)],.blk b6 [vo],.blk bc (Is s.cost),.blk bb (kB s.by_)]∧OvR H' vo ov∧zL (N+1) ar r k ov s) (Ix:=fun _ _ _=>False) (by rintro k _ _ σ g1 ⟨s,ov,vo,g2,g3,g4⟩;exact ⟨s,ov,vo,g2,g3.mono g1,g4⟩) (fun _ _ _ _ _ h=>h)
     ⟨s,none,_,rfl,rfl,ZE⟩ ?_ ?_ (fun D c H' σb w _ h _=>h.elim)
    ·rintro l k hk H2 vX vW w aQ ⟨s,ov,vo,rfl,HG,hN⟩ hs ⟨rr,HF⟩;obtain ⟨x,hx⟩:=nth (l:=ar) (by simpa using hk);obtain ⟨c1,c2,c3,c4,c5,c6⟩:=aJ.2 x (List.mem_of_getElem? hx);have Iv:(ar.map fun x=>[Value.agg x.v.toArray])[k]=[.agg x.v.toArray]:=by rw [List.getElem_map];rw [List.getElem?_eq_some_iff] at hx;obtain ⟨h1,h2⟩:=hx;rw [h2]
     rw [Iv];have sV:k<ar.length:=by simpa using hk
     have CC:=aJ.1;have NZ:=hN.lc;have IB:=hN.lb;have lo1:=hN.lo x.f c1;have hi1:=hN.hi x.f c1;refine .region (.o (.alloc hs gY rfl fun b8 w hs=>?_));refine .o (.aE (vs:=x.v) hs rfl rfl aV fun w hs=>?_);refine .nil (nT ⟨H2,[.blk b8 x.v,.blk b4 [.slice (some ⟨bc,0,none⟩) (N+1) (N+1)],.blk b5 [.slice (some ⟨bb,0,none⟩) (N+1) (N+1)],.blk b6 [vo],.blk bc (Is s.cost),.blk bb (kB s.by_)],HLe.refl _,hs,?_⟩);rintro w vW - hs;refine .block (.seq (.draw mix rfl hs fun w hs=>?_));refine .y 0 rfl hs an ?_;refine .z 1 rfl (zfa dk) ?_;refine .y 2 rfl hs aj ?_;first|(refine .ixv 3 rfl hs af ak ?_;intro Rh o34 lP)|refine .z 3 rfl (zix af ak) ?_
     refine .y 4 rfl hs aj ?_;refine .z 5 rfl (zfa fM) ?_;refine .y 6 rfl hs aj ?_;refine .z 7 rfl cD ?_;refine .y 8 rfl hs an ?_;refine .z 9 rfl (zfa dt) ?_;refine .y 10 rfl hs aj ?_;first|(refine .ixv 11 rfl hs af ak ?_;intro XT o42 Du)|refine .z 11 rfl (zix af ak) ?_
     refine .y 12 rfl hs aj ?_;refine .z 13 rfl ju ?_;refine .D hs ?_;refine (.cg rfl (fun Dt=>?_) (fun Dt=>?_))
     ·refine .seq (.draw mix rfl hs fun w hs=>?_);refine .y 0 rfl hs an ?_;refine .z 1 rfl (zfa dt) ?_;refine .y 2 rfl hs aj ?_;refine .y 3 rfl hs mc ?_;refine .z 4 rfl (zfa dt) ?_;refine .y 5 rfl hs aj ?_;refine .y 6 rfl hs an ?_;refine .z 7 rfl (zfa dk) ?_;refine .y 8 rfl hs aj ?_;first|(refine .ixv 9 rfl hs af ak ?_;intro b54 o54 MT)|refine .z 9 rfl (zix af ak) ?_
      refine .y 10 rfl hs aj ?_;refine .z 11 rfl (zfa fM) ?_;refine .y 12 rfl hs aj ?_;refine .z 13 rfl cD ?_;refine .EP (i:=14) (vs:=x.v) hs rfl az .none rfl pR aV ?_;first|(refine .ixv 15 rfl hs af ak ?_;intro b60 o60 hc60)|refine .z 15 rfl (zix af ak) ?_
      refine .E 16 hs ?_;refine .store hs rfl rfl ak ?_;intro w hs;refine .go ?_;first|(refine .ixw 17 rfl hs aH aV ?_;intro Rg o61 yR)|refine .z 17 rfl (CO aH aV) ?_
      refine .E 18 hs ?_;refine .aE (vs:=x.v) hs rfl rfl aV ?_;intro w hs;refine .go (.D hs (.region (.o (.store hs rfl rfl sizeOf268 fun w hs=>?_))));refine .nil (nB ?_);obtain ⟨H3,g1,g2,hs⟩:=hs.bZ .here;exact ⟨H3,_,g1,hs,s.rlx x,some x,_,rfl,⟨b8,rfl,g2⟩,hN.C1 aJ hx Dt⟩
     ·exact .skip (nB ⟨H2,_,HLe.refl _,hs.tail,s,ov,vo,rfl,HG,hN.skip aJ hx (by unfold BS.can;omega)⟩)
    ·rintro D H2 vX w aQ ⟨s,ov,vo,rfl,HG,hN⟩ hs;obtain ⟨a',rfl,Oh⟩:=HG.ptr;replace hs:St H2 w (.blk b4 [.slice (some ⟨bc,0,none⟩) (N+1) (N+1)]:: .blk b5 [.slice (some ⟨bb,0,none⟩) (N+1) (N+1)]:: .blk b6 [.pointer a']:: .blk bc (Is s.cost):: .blk bb (kB s.by_)::(mes (D::Ds)++σ)):=St.deep (σ1:=[_,_,_,_,_]) hs;have hN:zL (N+1) ar r ar.length ov s:=by simpa using hN
     refine nB (nT (.ae (.y hs (zld isAgg268) (.q hs (Ji rfl rfl runUnderlying268) (.nil (.cond rfl (fun rj=>?_) (fun rj=>?_)))))))
     ·refine .seq (.draw mix rfl hs fun w hs=>?_);refine .y 0 rfl hs an ?_;refine .y 1 rfl hs mc ?_;refine .E 2 hs ?_;refine .store hs rfl rfl aO ?_;intro w hs;refine .go (.E 3 hs ?_);refine .store hs rfl rfl TT ?_;intro w hs;refine .go (.E 4 hs ?_);refine .store hs rfl rfl sizeOf268 ?_;intro w hs;refine .go (.D hs (.ret (rB (rT (rB (rT (?_)))))));obtain ⟨rfl,rfl⟩:=OvR.no Oh rj;refine Fin.hZ (D::Ds) [_,_,_,_,_] hs fun w hs=>⟨_,results3 results225 (Hl hs rfl an) (Hl hs rfl mc) (Hl hs rfl isAgg268),H2,bc,bb,s,none,_,aq.trans aQ,rfl,HG,⟨r,hN,fun h=>(h rfl).elim⟩,hs.sb⟩
     ·refine .skip (nB (nT ?_));obtain ⟨x,rfl⟩:=OvR.yes Oh rj;exact .mk (ds:=marks (D::Ds)) ⟨rfl,D::Ds,H2,s,_,rfl,aq.trans aQ,hN.next aJ,.inr ⟨x,HG,hN⟩,hs⟩
   ·rintro ds fr w ⟨rfl,Ds,H1,s,vo,rfl,aq,ZE,hor,hs⟩;obtain ⟨x,HG,hN⟩:∃x,OvR H1 vo (some x)∧zL (N+1) ar (N+2 - 1) ar.length (some x) s:=hor.resolve_left ai;obtain ⟨b3,rfl,qh⟩:=HG;refine nT (.seq (.draw mix rfl hs fun w hs=>?_));refine .y 0 rfl hs an ?_;refine .y 1 rfl hs mc ?_;refine .y 2 rfl hs isAgg268 ?_;refine .E 3 hs ?_;refine .store hs rfl rfl aO ?_;intro w hs;refine .go (.E 4 hs ?_);refine .store hs rfl rfl TT ?_;intro w hs;refine .go (.E 5 hs ?_);refine .store hs rfl rfl sizeOf268 ?_;intro w hs;refine .go (.D hs (.ret (Fin.hZ Ds [_,_,_,_,_] hs fun w hs=>⟨_,results3 results225 (Hl hs rfl an) (Hl hs rfl mc) (Hl hs rfl isAgg268),H1,bc,bb,s,some x,_,aq,rfl,⟨b3,rfl,qh⟩,⟨N+1,hN,fun _=>rfl⟩,hs.sb⟩)))
theorem kx{w:World}{v:Value}{s:cM}(hs:St H w σ)(aJ:s.Ok)(hr:RSy H v s):
  Z4 223 [v] w fun v w'=>∃H1 b,HLe H H1∧v= .bool b∧(b=true↔s.Sound)∧St H1 w' σ:=by
 obtain ⟨u,rfl,hr⟩:=hr;obtain ⟨N,hN⟩:=Int.eq_ofNat_of_zero_le aJ.m0;have UJ:=aJ.m1;have hn:s.n=N+1:=by simp [cM.n,hN]
 have oC:=aJ.da;rw [hn] at oC;rw [hN];refine Cl.o func223 ntmps223 ag1 ?_;refine .ae (.bx hs fun b1 w hs=>?_);refine .zn zg (.seq (.draw mix rfl hs fun w hs=>?_));refine .zw 0 rfl (zfa bU) ?_;refine .y 1 rfl hs aj ?_;refine .ys 2 rfl hs [_,_] cf bg ?_;refine .E 3 hs ?_;refine .call call269 rfl (lW (s:=s) hs aJ ⟨u,by rw [hN],hr⟩) ?_;rintro _ w ⟨H1,mU,aq,rfl,pF,hs⟩;refine .go (.E 4 hs ?_);refine .call call225 rfl (kv hs ai oC pF call295) ?_;rintro _ w ⟨H2,bc,bb,st,ov,vo,aQ,rfl,HG,QX,hs⟩;obtain ⟨a',rfl,Oh⟩:=HG.ptr;refine .go (.zw 5 rfl zm ?_);refine .z 6 rfl zex ?_;refine .z 7 rfl zex ?_;refine .z 8 rfl zex ?_;refine .z 9 rfl zg ?_;refine .z 10 rfl zg ?_;refine .z 11 rfl zg ?_;refine .D hs ?_;refine .ae (.z zm (.q hs (Ji rfl rfl runUnderlying268) (.zn zg (.ret (Fin.bw results223 rfl ⟨H2,_,aq.trans aQ,rfl,?_,hs.out⟩)))));obtain ⟨r,Lr,BQ⟩:=QX
 cases ov with
 |none=>
  rw [Oh];exact ⟨fun _=>⟨_,(Lr.sol oC ai).1⟩,fun _=>rfl⟩
 |some x=>
  rw [Oh];exact ⟨fun h=>(by cases h),fun h=>(Lr.none oC ai (by have:=BQ bB;omega) h).elim⟩
theorem sz{w:World}{c:Int}(hs:St H w σ)(hc:0≤c∧c<4294967296):Z4 313 [.int .u64 1,.int .u64 c] w fun v w'=>v= .tuple #[.int .u64 0,.int .u64 c]∧St H w' σ:=by
 refine Cl.o func313 ntmps313 ag2 ?_;refine .ae (.z zg (.zn zg (.ae (.z zm ?_))));first|refine .q hs (O8 rfl rfl ⟨ai,ai⟩) ?_|refine .q hs (F3 rfl rfl) ?_
 refine .zn zg (.ae (.z zm ?_));first|refine .q hs (C3 rfl rfl ⟨ai,ai⟩) ?_|refine .q hs (EH rfl rfl ef) ?_
 refine .zn zg (.ae (.z zm ?_));first|refine .q hs (O8 rfl rfl ⟨ai,ai⟩) ?_|refine .q hs (F3 rfl rfl) ?_
 refine .zn zg (.ae (.z zm ?_));first|refine .q hs (C3 rfl rfl ⟨ai,ai⟩) ?_|refine .q hs (EH rfl rfl ef) ?_
 refine .zn zg (.ae (.z zm (.z zm (.z mV (.zn zg (.ae (.z zm (.z zm (.z mV (.z zm ?_))))))))));first|refine .q hs (C3 rfl rfl ⟨ai,ai⟩) ?_|refine .q hs (EH rfl rfl ef) ?_
 refine .z cD (.zn zg (.ae (.z zm ?_)));first|refine .q hs (O8 rfl rfl ⟨ai,ai⟩) ?_|refine .q hs (F3 rfl rfl) ?_
 refine .zn zg (.ae (.z zm ?_));first|refine .q hs (C3 rfl rfl ⟨ai,ai⟩) ?_|refine .q hs (EH rfl rfl ef) ?_
 refine .zn zg (.ae (.z zm (.z zm (.z zm (.z mV (.z cD (.zn zg (.ae (.z zm (.z zm (.z mV (.z zm (.z cD (.z zm ?_))))))))))))));first|refine .q hs (C3 rfl rfl ⟨ai,ai⟩) ?_|refine .q hs (EH rfl rfl ef) ?_
 exact .z cD (.zn zg (.ae (.z zm (.z zm (.z mV (.zn zg (.ret (Fin.jr results313 rfl rfl ⟨bB,hs⟩))))))))
theorem u6{w:World}{c:Int}(hs:St H w σ)(hc:0≤c∧c<4294967296):Z4 306 [.int .u64 1,.int .u64 c] w fun v w'=>v= .tuple #[.int .u64 0,.int .u64 c]∧St H w' σ:=by
 refine Cl.o func306 ntmps306 ag2 ?_;refine .ae (.z zg (.zn zg (.seq (.cF (.skip (nT (.ae (.z zm (.z zm (.o (.call call313 rfl (sz hs hc) ?_)))))))))));rintro _ w ⟨rfl,hs⟩;exact .z zm (.z zex (.z zex (.z zg (.zn zg (.ae (.z zm (.z zm (.z zg (.zn zg (.ret (Fin.jr results306 rfl rfl ⟨rfl,hs⟩)))))))))))
theorem KE{c:Nat}{z:Int}:let n:=min k (c - k);(List.replicate k z++List.replicate (c - k) 0).take k++List.replicate n z++(List.replicate k z++List.replicate (c - k) 0).drop (k+n)=List.replicate (k+n) z++List.replicate (c - (k+n)) (0:Int):=by
 intro n;have hn:n≤c - k:=Nat.min_le_right _ _;have e0:(List.replicate k z).length=k:=by simp
 rw [List.take_left' e0];have e1:(List.replicate k z++List.replicate (c - k) 0).drop (k+n)=List.replicate (c - (k+n)) (0:Int):=by
  rw [show k+n=(List.replicate k z).length+n by simp,List.drop_append];simp;omega
 rw [e1,List.replicate_append_replicate]
theorem uP{w:World}{z:Int}{bx c:Nat}(hs:St H w σ)(hm:Mem σ (.blk bx (Is [z])))(h1:1≤c)(h2:c≤1000000):Z4 296 [.slice (some ⟨bx,0,none⟩) 1 1,I c] w fun v w'=>∃b,v= .slice (some ⟨b,0,none⟩) c c∧St H w' (.blk b (Is (List.replicate c z))::σ):=by
 refine Cl.o func296 ntmps296 ag2 ?_;refine .ae (.zn zg (.seq (.ae (.z zm (.zn ju (.cg rfl (fun qm=>?_) (fun qm=>?_)))))))
 ·omega
 ·refine .skip (nT (.ae (.z zm (.z (de af) ?_))));first|refine .q hs (Bw rfl bF eS ⟨ai,ai⟩) ?_|refine .q hs (Bv rfl bF eS ⟨ai,ai⟩) ?_|refine .q hs (C5 rfl bF eS) ?_
  refine .z zm ?_;first|refine .q hs (Bw rfl bF eS ⟨ai,ai⟩) ?_|refine .q hs (Bv rfl bF eS ⟨ai,ai⟩) ?_|refine .q hs (C5 rfl bF eS) ?_
  refine .o (.call call306 rfl (u6 (c:=c) hs ai) ?_);rintro _ w ⟨rfl,hs⟩;refine .z zm (.z zex (.z zex (.z zg (.zn zg (.seq (.ae (.z zm (.z nJ (.z zm (.iY (t':=23) rfl (fun yY=>?_) (fun yY=>?_)))))))))))
  ·refine .Fs 2 2 false (.zn zpT (.cT ?_));first|omega|(simp at jy;omega)
  ·refine .T (.z zm (.T (.z nJ (.zn zpF (.cg rfl (fun jy=>?_) (fun jy=>?_))))))
   ·first|omega|(simp at jy;omega)
   ·refine .skip (nT (.ae (.z zm ?_)));first|refine .q hs (Bw rfl eS bF ⟨ai,ai⟩) ?_|refine .q hs (Bv rfl eS bF ⟨ai,ai⟩) ?_|refine .q hs (C5 rfl eS bF) ?_
    refine .o (.BJ c hs rfl rfl af pN rfl ak dw ai fun TC w hs=>?_);refine .zn zg (.ae (.z zm (.z zm (.o (.Tu (k:=1) (xs:=List.replicate c 0) (zs:=[z]) hs rfl rfl ⟨_,_,rfl⟩ af ak ai rfl (DM (xs:=[z]) (.there hm) rfl rfl) (by simp;omega) ?_)))));intro w hs;refine .zn zg (.seq (.block ?_));refine .loop (fun k:Nat=>⟨48,[],[(8,I k),(7,.slice (some ⟨TC,0,none⟩) c c)]⟩) (fun k w=>(1≤k∧k≤c)∧St H w (.blk TC (Is (List.replicate k z++List.replicate (c - k) 0))::σ)) (fun k=>c - k) 1 aW ⟨⟨ai,ai⟩,by
      have e:List.take 0 (List.replicate c (0:Int))++[z]++List.drop (0+1) (List.replicate c 0)=List.replicate 1 z++List.replicate (c - 1) 0:=by simp
      rw [e] at hs;exact hs⟩ ?_
    rintro k w ⟨⟨k1,k2⟩,hs⟩;refine .seq (.ae (.z zm (.z zm (.z (de af) (.zn ju (.cg rfl (fun yT=>?_) (fun yT=>?_)))))))
    ·refine .skip (nT (.block (.draw mix rfl hs fun w hs=>?_)));refine .zw 0 rfl zm ?_;refine .z 1 rfl zm ?_;refine .z 2 rfl zm ?_;refine .zw 3 rfl (C2 (k:=k) rfl rfl af ak ai ai) (.zw 4 rfl zm ?_);refine .z 5 rfl zm ?_;refine .zw 6 rfl (yu (k:=k) rfl rfl af ak ai) (.E 7 hs ?_);refine .Tu (k:=min k (c - k)) (xs:=List.replicate k z++List.replicate (c - k) 0) (zs:=List.replicate (min k (c - k)) z) hs rfl rfl ⟨_,_,rfl⟩ af ak rfl bB (DM (xs:=List.replicate k z++List.replicate (c - k) 0) .here (by rw [List.drop_zero,List.take_append_of_le_length (by simp;omega)];simp) bB) (by simp;omega) ?_;intro w hs;refine .go (.zw 8 rfl cD ?_);refine .z 9 rfl zg ?_;refine .D hs ?_;refine nB (nT ?_);exact ⟨k+min k (c - k),aW,⟨⟨ai,ai⟩,by
       have e:=KE (z:=z) (c:=c) (k:=k);simp only [Nat.mul_one,Nat.zero_add] at hs;rw [e] at hs;exact hs⟩,ai⟩
    ·refine .exit (xT (xT (xB (nT (.ae (.z zm (.zn zg (.ret (Fin.bw results296 rfl ?_)))))))));obtain rfl:k=c:=by omega
     exact ⟨TC,rfl,by simpa using hs⟩
theorem uQ{w:World}{v:Value}(hs:St H w σ)(hr:RI H v xs)(hx:xs.length≤17592186044416):Z4 171 [v] w fun u w'=>∃en,(RR v=true→RR u=true)∧cz 1 u (Is xs) en∧St H w' (en::σ):=by
 obtain ⟨a,c,rfl⟩:=RI.shape hr;have hl:=(RI.len hr).2.2;refine Cl.o func171 ntmps171 ag1 ?_;refine .ae (.zn zg (.seq (.ae (.z zm (.q hs (Jh rfl rfl af) (.nil (.cond rfl (fun N6=>?_) (fun N6=>?_))))))))
 ·refine .ae (.zn zg (.ret (rT (Fin.bw results171 rfl ?_))));obtain rfl:a=none:=by simpa using N6
  obtain rfl:=hr.Jt;exact ⟨.nul,fun h=>h,.nil 1 none,hs.nul⟩
 ·refine .skip (nT (.ae (.o (.buildSlice (cells:=[]) hs wE rfl rfl fun b5 w hs=>?_))));refine .z zm (.o (.K7 (xs:=[]) (ys:=Is xs) hs cI rfl rfl (.full rfl) (.ints hr) (by simp [Value.oneCell']) (fun l h=>by simp at h;omega) ?_));intro v7 en7 w Cy hO hs;exact .zn zg (.ret (Fin.bw results171 rfl ⟨en7,fun _=>Cy rfl,hO,hs⟩))
theorem jG{w:World}{v:Value}(hs:St H w σ)(hr:RI H v xs)(hx:xs.length≤17592186044416):Z4 171 [v] w fun v w'=>∃en,cz 1 v (Is xs) en∧St H w' (en::σ):=
 (uQ hs hr hx).mono fun _ _ ⟨en,_,h⟩=>⟨en,h⟩
theorem r9{w:World}{v:Value}{l:List Arc}(hs:St H w (en::σ))(ho:cz 4 v (kB l) en)(hl:l.length≤1000000):
  Z4 297 [v] w fun _ w'=>∃j9,cz 4 v (kB l.reverse) j9∧St H w' (j9::σ):=by
 rcases ho with ⟨a,rfl,h2,rfl⟩|⟨b,len,cap,sp,rfl,rfl,h2,h3,h4⟩
 ·obtain rfl:l=[]:=by
   have:=congrArg List.length h2;rw [dI] at this;exact List.length_eq_zero_iff.1 (by simp at this;omega)
  have hs:=hs.tail;refine Cl.o func297 ntmps297 ag1 ?_;refine .ae (.z zm (.z (de aH) (.z iX (.z zg (.zn zg (.block (.loop (fun _:Unit=>⟨28,[],[(2,I 0),(3,I (-1))]⟩) (fun _ w=>St H w σ) (fun _=>0) () aW hs ?_)))))));rintro _ w hs;refine .seq (.ae (.z zm (.z zm (.zn ju (.cg rfl (fun mW=>?_) (fun mW=>?_))))))
  ·omega
  ·exact .exit (xT (xT (xB (Fin.DS results297 ⟨.nul,.nil 4 a,hs.nul⟩))))
 obtain rfl:len=l.length:=by rw [dI] at h2;omega
 refine Cl.o func297 ntmps297 ag1 ?_;refine .ae (.z zm (.z (de aH) (.z iX (.z zg (.zn zg (.block (.loop (fun p:Nat×List Arc=>⟨28,[],[(2,I p.1),(3,I ((l.length:Int) - 1 - p.1)),(0,.slice (some ⟨b,0,none⟩) l.length cap)]⟩) (fun p w=>(2*p.1≤l.length+1∧wH l p.2 p.1)∧St H w (.blk b (kB p.2++sp)::σ)) (fun p=>l.length - p.1) (0,l) (.cons rfl (.dc rfl bB (.cons rfl (.nil rfl rfl)))) ⟨⟨bB,.start l⟩,hs⟩ ?_)))))));rintro ⟨i,L⟩ w ⟨⟨h5,h6⟩,hs⟩;dsimp only at h5 h6 hs ⊢;have hL:=h6.1;refine .seq (.ae (.z zm (.z zm (.zn ju (.cg rfl (fun mW=>?_) (fun mW=>?_))))))
 ·refine .skip (nT (.seq (.block (.draw mix rfl hs fun w hs=>?_))));refine .zw 0 rfl zm ?_;refine .z 1 rfl zm ?_;refine .z 2 rfl zm ?_;refine .z 3 rfl zm ?_;refine .z 4 rfl zm ?_;refine .z 5 rfl zm ?_;refine .zw 6 rfl (AJ (k:=l.length - 1 - i) rfl rfl aH aV ai ai) (.EP (i:=7) (vs:=(ga L (l.length - 1 - i)).v) hs rfl az .none rfl pR aV ?_ (hv:=zx ai sp));refine .zw 8 rfl zm ?_;refine .z 9 rfl zm ?_;first|(refine .ixw 10 rfl hs aH aV ?_;intro Nn o24 mJ)|refine .z 10 rfl (CO aH aV) ?_
  refine .EP (i:=11) (vs:=(ga L i).v) hs rfl az .none rfl pR aV ?_ (hv:=zx ai sp);first|(refine .ixw 12 rfl hs aH aV ?_;intro TF o26 jy)|refine .z 12 rfl (CO aH aV) ?_
  refine .E 13 hs ?_;refine .aE (vs:=(ga L (l.length - 1 - i)).v) hs rfl rfl aV ?_ eJ (zi ai sp) (wb ai _ sp);intro w hs;refine .go (.zw 14 rfl (AJ (k:=l.length - 1 - i) rfl rfl aH aV ai ai) (.E 15 hs ?_));refine .aE (vs:=(ga L i).v) hs rfl rfl aV ?_ eJ (zi (by simp;omega) sp) (wb (by simp;omega) _ sp);intro w hs;exact .go (.D hs (nB (nT (.region (.z zm (.z cD (.z zm (.z iX (.z zg (.zn zg (nT ⟨(i+1,_),.cons rfl (.dc rfl (by push_cast;omega) (.cons rfl (.nil rfl rfl))),⟨⟨by dsimp only;omega,h6.step ai⟩,hs⟩,by dsimp only;omega⟩)))))))))))
 ·refine .exit (xT (xT (xB ?_)));rw [h6.done ai] at hs;exact Fin.DS results297 ⟨_,.inr ⟨b,l.length,cap,sp,rfl,rfl,by rw [dI];simp,by rw [←h3];simp [dI],h4⟩,hs⟩
theorem pJ{b1:Nat}{s:cM}(aJ:s.Ok)(hb:Row H b1 [Pt bf])(hF:xl H bf s ts lf vl bt bl cl sp)(eX:ts.length=s.cJ.length):
  ItA Tryz.prog 274 [Pt b1] H (dW s.da ts):=by
 intro l II Ix E2 MK hy H0 FO σf w hle AT hs;have Em:cellAt H0 b1 0=some (Pt bf):=(hb.mono hle).at 0;have UM:=hF.mono hle;have R4:=UM.f.cells 0 [I s.many,vl];have hlen:s.da.length=ts.length:=by simp [cM.da,dU,eX]
 refine Cl.o func274 ntmps274 ag2 ?_;refine .ae (.bx hs fun b2 w hs=>?_);refine .nil (.ae (.y hs (zld OI) (.z znc (.z (zfa fN) (.q hs (bH (vs:=[I s.many,vl]) rfl cf bg R4) (.o (.call call269 rfl (lW (s:=s) hs aJ ⟨vl,rfl,UM.l⟩) ?_)))))));rintro _ w ⟨H1,b8,aq,rfl,pF,hs⟩;refine .nil (.block ?_);refine .rangeFunc (gf:=295) (cap:=[Pt b8]) (xs:=s.da.map fun x:Arc=>[Value.agg x.v.toArray]) (σb:= .blk b2 [.func (.yield l) #[] #[]]::FO) (σf:=σf) hs trivial rfl pF call295 bB rfl
  (I:=fun k H' σb=>∃σo,σb= .blk b2 [.func (.yield l) #[] #[]]::σo∧HLe H0 H'∧II (F8 s.da ts k) H' σo)
  (Ix:=fun c H' σb=>c= .ret∧∃σo,σb= .blk b2 [.func (.yield l) #[] #[]]::σo∧HLe H0 H'∧Ix H' σo)
  (fun k _ _ σ g1 ⟨σo,g2,g3,g4⟩=>⟨σo,g2,g3.trans g1,E2 _ _ _ _ g1 g4⟩) (fun c _ _ σ g1 ⟨g0,σo,g2,g3,g4⟩=>⟨g0,σo,g2,g3.trans g1,MK _ _ _ g1 g4⟩)
  ⟨FO,rfl,aq,by rw [Jo];exact E2 _ _ _ _ aq AT⟩ ?_ ?_ ?_
 ·rintro l2 k hk H2 vX vW w aQ ⟨σo,rfl,eY,XF⟩ hs ⟨rr,HF⟩;obtain ⟨x,hx⟩:=nth (l:=s.da) (by simpa using hk);obtain ⟨c1,c2,c3,c4,c5,c6⟩:=aJ.da.2 x (List.mem_of_getElem? hx);have Iv:(s.da.map fun x=>[Value.agg x.v.toArray])[k]=[.agg x.v.toArray]:=by rw [List.getElem_map];rw [List.getElem?_eq_some_iff] at hx;obtain ⟨h1,h2⟩:=hx;rw [h2]
  rw [Iv];have Q2:k<ts.length:=by rw [←hlen];simpa using hk
  have wi:x.l=(k:Int):=uk hx;obtain ⟨r1,r2,r3⟩:=I6 (ts:=ts) hx Q2;refine .region (.o (.alloc hs gY rfl fun b3 w hs=>?_));refine .o (.aE (vs:=x.v) hs rfl rfl aV fun w hs=>?_);refine .nil (nT ⟨H2,.blk b3 x.v:: .blk b2 [.func (.yield l) #[] #[]]::σo,HLe.refl _,hs,?_⟩);rintro w vW - hs;refine .block (.seq (.ae (.y hs (zld isAgg307) (.q hs (mD (vs:=x.v) rfl pR aV) ?_))));have zE:=hy (F8 s.da ts k) (by simpa using (List.getElem?_eq_some_iff.1 r1).1) H2 σo (.blk b3 x.v:: .blk b2 [.func (.yield l) #[] #[]]::vW) w (hle.trans eY) XF (St.deep (σ1:=σo) (St.deep (σ1:= .blk b3 x.v::σo) (hs.perm (.swap _ _ _))));rw [JA r1] at zE;refine .o (.yield (vs:=[.agg x.v.toArray]) rfl rfl zE ?_);rintro v12 w ⟨H3,σ3,bJ,hs,g3⟩;obtain ⟨bb,rfl,gT,gF⟩:=pT g3;replace hs:St H3 w (.blk b3 x.v:: .blk b2 [.func (.yield l) #[] #[]]::(σ3++vW)):=(St.shallow (σ1:= .blk b3 x.v::σ3) (St.shallow (σ1:=σ3) hs)).perm (.swap _ _ _);refine .zn ia (.cond rfl (fun iz=>?_) (fun iz=>?_))
  ·exact .ret (rT (rB (⟨H3,.blk b2 [.func (.yield l) #[] #[]]::σ3,bJ,hs.tail,rfl,σ3,rfl,eY.trans bJ,gF (by simpa using iz)⟩)))
  ·refine .skip (nT (.seq (.draw mix rfl hs fun w hs=>?_)));have UC:cellAt H3 b1 0=some (Pt bf):=cellAt.mono Em (eY.trans bJ);have Uu:cellAt H3 bf 2=some (.slice (some ⟨bt,0,none⟩) ts.length ts.length):=((UM.mono (eY.trans bJ)).f).at 2;have ht3:cellAt H3 bt k=some (I (gi ts k)):=((UM.mono (eY.trans bJ)).t).at k (kc Q2);have Kv:=gT (by simpa using iz);refine .r (i:=0) hs rfl az .none (aR rfl OI UC) ?_;refine .zw 1 rfl znc ?_;refine .z 2 rfl (zfa gV) ?_;refine .y 3 rfl hs an ?_;refine .z 4 rfl (zfa dO) ?_;refine .y 5 rfl hs aj ?_;refine .zw 6 rfl (kM (k:=k) rfl rfl af ak wi Q2) (.r (i:=7) hs rfl az .none (aR rfl aj ht3) ?_);refine .zw 8 rfl nJ ?_;refine .z 9 rfl zm ?_;refine .iY (t':=23) rfl (fun yY=>?_) (fun yY=>?_)
   ·refine .zv 10 rfl hs (lO isAgg307) (.zw 11 rfl (zfa dt) ?_);refine .y 12 rfl hs aj ?_;refine .z 13 rfl (zfa dk) ?_;refine .y 14 rfl hs aj ?_;refine .z 15 rfl (zfa fM) ?_;refine .y 16 rfl hs aj ?_;refine .z 17 rfl G4 ?_;refine .z 18 rfl (zfa dO) ?_;refine .y 19 rfl hs aj ?_;refine .z 20 rfl (zbd [_,_,_,_] rN) ?_;refine .E 21 hs ?_;obtain ⟨r4,r5⟩:=r2 yY;have zE:=hy (F8 s.da ts k+1) (by simpa using (List.getElem?_eq_some_iff.1 r4).1) H3 σ3 (.blk b3 x.v:: .blk b2 [.func (.yield l) #[] #[]]::vW) w (hle.trans (eY.trans bJ)) Kv (St.deep (σ1:=σ3) (St.deep (σ1:= .blk b3 x.v::σ3) (hs.perm (.swap _ _ _))));rw [JA r4] at zE;refine .yield (vs:=[.agg x.back.v.toArray]) rfl rfl zE ?_;rintro v35 w ⟨H4,σ4,eo,hs,g4⟩;obtain ⟨bb4,rfl,gT4,gF4⟩:=pT g4;replace hs:St H4 w (.blk b3 x.v:: .blk b2 [.func (.yield l) #[] #[]]::(σ4++vW)):=(St.shallow (σ1:= .blk b3 x.v::σ4) (St.shallow (σ1:=σ4) hs)).perm (.swap _ _ _);refine .go (.zw 22 rfl ia ?_);refine .z 23 rfl zpT ?_;refine .D hs ?_;refine (.cond rfl (fun yT=>?_) (fun yT=>?_))
    ·exact .ret (rB (⟨H4,.blk b2 [.func (.yield l) #[] #[]]::σ4,bJ.trans eo,hs.tail,rfl,σ4,rfl,eY.trans (bJ.trans eo),gF4 (by simpa using yT)⟩))
    ·exact .skip (nB ⟨H4,.blk b2 [.func (.yield l) #[] #[]]::σ4,bJ.trans eo,hs.tail,σ4,rfl,eY.trans (bJ.trans eo),by rw [r5];exact gT4 (by simpa using yT)⟩)
   ·refine .F 10 rfl ?_;refine .F 11 rfl (.F 12 rfl (.F 13 rfl (.F 14 rfl (.F 15 rfl (.F 16 rfl (.F 17 rfl (.F 18 rfl (.F 19 rfl (.F 20 rfl (.F 21 rfl (.F 22 rfl (.zw 23 rfl zpF ?_))))))))))));refine .D hs ?_;exact (.cF (.skip (nB ⟨H3,.blk b2 [.func (.yield l) #[] #[]]::σ3,bJ,hs.tail,σ3,rfl,eY.trans bJ,by rw [r3 yY];exact Kv⟩)))
 ·rintro D H2 vX w aQ ⟨σo,rfl,eY,XF⟩ hs;exact nB (Fin.UO [D] [] hs.FU fun w hs=>⟨_,results0 results274,H2,σo,eY,hs,.inl (by simpa [Mg hlen] using XF)⟩)
 ·rintro D c H2 vX w aQ ⟨rfl,σo,rfl,eY,hx⟩ hs;exact .ret (rB (Fin.hZ [D] [] hs.FU fun w hs=>⟨_,results0 results274,H2,σo,eY,hs,.inr hx⟩))
theorem l9{w:World}{s:cM}(hs:St H w σ)(aJ:s.Ok)(hF:xl H bf s ts lf vl bt bl cl sp)(eX:ts.length=s.cJ.length):
  Z4 226 [Pt bf] w fun v w'=>∃H1 b,HLe H H1∧v= .func (.func 274) #[] #[Pt b]∧ItA Tryz.prog 274 [Pt b] H1 (dW s.da ts)∧St H1 w' σ:=by
 refine Cl.o func226 ntmps226 ag1 ?_;refine .ae (.bx hs fun b1 w hs=>?_);refine .zn zg (.ae (.q hs (dp (f:=[]) (c:=[_]) rfl rfl) (.zn zg (.ret (Fin.bw results226 rfl ?_)))));obtain ⟨H1,g1,g2,hs⟩:=hs.bZ .here;exact ⟨H1,b1,g1,rfl,pJ aJ g2 (hF.mono g1) eX,hs⟩
theorem sK{w:World}{to:Nat}{s:cM}(hs:St H w σ)(aJ:s.Ok)(hF:xl H bf s ts lf vl bt bl cl sp)(eX:ts.length=s.cJ.length)(yK:lf.length=s.n)
  (hD:∃p,iP (dW s.da ts) p) (sG:to<s.n) (V1:0<gi lf to):
  Z4 272 [Pt bf,I to] w fun v w'=>∃H1 p en,HLe H H1∧cz 4 v (kB p) en∧St H1 w' (en::σ)∧X8 s.n s.da ts lf p to:=by
 obtain ⟨N,hN⟩:=Int.eq_ofNat_of_zero_le aJ.m0;have UJ:=aJ.m1;have hn:s.n=N+1:=by simp [cM.n,hN]
 have oC:=aJ.da;have hlen:s.da.length=ts.length:=by simp [cM.da,dU,eX]
 rw [hn] at oC yK sG ⊢;obtain ⟨D,hg⟩:=FY ai ai oC hlen hD;have Ze:cellAt H bf 0=some (I (N:Int)):=by have:=hF.f.at 0 (v:=I s.many);rwa [hN] at this
 have Uu:cellAt H bf 3=some (.slice (some ⟨bl,0,none⟩) lf.length cl):=hF.f.at 3;refine Cl.o func272 ntmps272 ag2 ?_;refine .ae (.bx hs fun b2 w hs=>?_);refine .zn zg (.ae (.o (.buildSlice (cells:=[_]) hs cQ rfl rfl fun mf w hs=>?_)));refine .y hs (zld OI) (.z znc (.z (zfa fN) (.z (zfa bU) (.y hs (zld aj) (.z cD (.o (.call call296 rfl (uP (z:=far) (c:=N+1) hs .here ai ai) ?_)))))));rintro _ w ⟨bc,rfl,hs⟩;refine .o (.alloc hs gX rfl fun b5 w hs=>?_);refine .o (.store hs rfl rfl aO fun w hs=>?_);refine .nil (.ae (.y hs (zld OI) (.z znc (.z (zfa fN) (.z (zfa bU) (.y hs (zld aj) (.z cD (.o (.Mu (N+1) hs rfl rfl aH Yk rfl aV gY ai fun A3 w hs=>?_)))))))));refine .o (.alloc hs zeroValue267 rfl fun b6 w hs=>?_);refine .o (.store hs rfl rfl TT fun w hs=>?_);refine .nil (.seq (.ae (.y hs (zld OI) (.z znc (.z (zfa dP) (.y hs (zld an) (.z (de af) (.zn zm (.for (N:=lf.length) (J:=fun k fr w=>fr=[(31,.slice (some ⟨bl,0,none⟩) lf.length cl),(5,Pt b5),(6,Pt b6),(2,Pt b2),(1,I to)]∧∃st,zp (N+1) lf k st∧St H w (.blk b6 [.slice (some ⟨A3,0,none⟩) (N+1) (N+1)]:: .blk A3 (kB st.by_):: .blk b5 [.slice (some ⟨bc,0,none⟩) (N+1) (N+1)]:: .blk bc (Is st.cost):: .blk b2 [Pt bf]::σ)) ai ?_ ?_ ?_)))))))))
 ·exact .mk ⟨rfl,_,.start _ _,hs.sb⟩
 ·rintro k fr w hk ⟨rfl,st,hI,hs⟩;have WD:cellAt H bl k=some (I (gi lf k)):=hF.d.at k (Lh (bL hk) sp);have NZ:=hI.lc;have IB:=hI.lb;have Y5:k<st.by_.length:=by omega
  refine .block (.ae (.z zm ?_));first|(refine .ixv hs af ak ?_;intro UT o36 qk)|refine .z (zix af ak) ?_
  refine .q hs (aR rfl aj WD) (.z zg (.zn zg (.ae (.z zm (.zn ju (.cg rfl (fun od=>?_) (fun od=>?_)))))))
  ·refine .ae (.y hs (zld an) (.z zm ?_));first|(refine .ixv hs af ak ?_;intro XT o42 Du)|refine .z (zix af ak) ?_
   refine .o (.store hs rfl rfl ak fun w hs=>?_);refine .nil (.region (.y hs (zld mc) (.z zm ?_)));first|(refine .ixw hs aH aV ?_;intro b45 o45 HS)|refine .z (CO aH aV) ?_
   refine .z (zfa dO) (.o (.store hs rfl rfl ak ?_ eJ (GP Y5 ai) (Eb Y5 _)));intro w hs;exact .nil (nB (nT (.mk ⟨rfl,_,hI.take ai od,hs⟩)))
  ·exact .skip (nB (nT (.mk ⟨rfl,_,hI.skip od,hs⟩)))
 ·rintro fr w ⟨rfl,st0,AT,hs⟩;rw [yK] at AT;have hW0:=AT.inv hg;refine nT (.seq (.ae (.o (.alloc hs zeroValue4 rfl fun b9 w hs=>?_))));refine .o (.store hs rfl rfl Nu fun w hs=>?_);refine .nil (.block ?_);refine .loop (fun p:Nat×List Nat×bG×BS×Bool=>⟨141,marks p.2.1,[(9,.pointer (some ⟨p.1,0,none⟩)),(5,Pt b5),(6,Pt b6),(2,Pt b2),(1,I to)]⟩)
   (fun p w=>HLe H p.2.2.1∧(∃j,xI (N+1) (dW s.da ts) (fun v=>gi lf v<0) D j p.2.2.2.2 p.2.2.2.1∧(p.2.2.2.2=false→j=(dW s.da ts).length))∧
    St p.2.2.1 w (.blk p.1 [.bool p.2.2.2.2]:: .blk b6 [.slice (some ⟨A3,0,none⟩) (N+1) (N+1)]:: .blk A3 (kB p.2.2.2.1.by_):: .blk b5 [.slice (some ⟨bc,0,none⟩) (N+1) (N+1)]:: .blk bc (Is p.2.2.2.1.cost):: .blk b2 [Pt bf]::(mes p.2.1++σ)))
   (fun p=>2*WM (N+1) D p.2.2.2.1+(if p.2.2.2.2=true then 1 else 0)) (b9,[],H,st0,true) aW ⟨HLe.refl _,⟨0,hW0,fun h=>by cases h⟩,hs⟩ ?_
  rintro ⟨b9,Ds,H1,st,ag⟩ w ⟨aq,⟨j,hW,hj⟩,hs⟩;dsimp only at aq hW hj hs ⊢;have NZ:=hW.lc;have IB:=hW.lb;refine .seq (.ae (.y hs (zld isAgg4) (.nil (.cond rfl (fun pG=>?_) (fun pG=>?_)))))
  ·refine .skip (nT (.seq (.block (.ae ?_))));subst pG;refine .o (.store hs rfl rfl Nu fun w hs=>?_);refine .nil (.ae (.y hs (zld OI) (.o (.call call226 rfl (l9 hs aJ (hF.mono aq) eX) ?_))));rintro _ w ⟨H2,ZZ,aQ,rfl,pF,hs⟩;refine .nil (.block ?_);refine .rangeFunc (gf:=274) (cap:=[Pt ZZ]) (xs:=(dW s.da ts).map fun x:Arc=>[Value.agg x.v.toArray])
    (σb:=[.blk b9 [.bool false],.blk b6 [.slice (some ⟨A3,0,none⟩) (N+1) (N+1)],.blk A3 (kB st.by_),.blk b5 [.slice (some ⟨bc,0,none⟩) (N+1) (N+1)],.blk bc (Is st.cost),.blk b2 [Pt bf]]) (σf:=mes Ds++σ) hs trivial rfl pF call274 bB rfl
    (I:=fun k H' σb=>HLe H2 H'∧∃Ei ag,σb=[.blk b9 [.bool ag],.blk b6 [.slice (some ⟨A3,0,none⟩) (N+1) (N+1)],.blk A3 (kB Ei.by_),.blk b5 [.slice (some ⟨bc,0,none⟩) (N+1) (N+1)],.blk bc (Is Ei.cost),.blk b2 [Pt bf]]∧
     xI (N+1) (dW s.da ts) (fun v=>gi lf v<0) D k ag Ei∧WM (N+1) D Ei≤WM (N+1) D st∧(ag=true→WM (N+1) D Ei<WM (N+1) D st)) (Ix:=fun _ _ _=>False)
    (by rintro k _ _ σ g1 ⟨g2,g3⟩;exact ⟨g2.trans g1,g3⟩) (fun _ _ _ _ _ h=>h) ⟨HLe.refl _,st,false,rfl,hW.next,Nat.le_refl _,fun h=>by cases h⟩ ?_ ?_ (fun D c H' σb w _ h _=>h.elim)
   ·rintro l k hk H3 Lw σf3 w bJ ⟨Dq,Ei,ag,rfl,BT,IA,NX⟩ hs ⟨rr,HF⟩;obtain ⟨x,hx⟩:=nth (l:=dW s.da ts) (by simpa using hk);obtain ⟨c1,c2,c3,c4,c5,c6⟩:=hg.ok x (List.mem_of_getElem? hx);rw [JA hx];have hlc':=BT.lc;have hlb':=BT.lb;have lo1:=BT.lo x.f c1;have lo2:=hg.d1 x.f c1;have YK:cellAt H3 bl x.t=some (I (gi lf x.t)):=((hF.mono (aq.trans (aQ.trans bJ))).d).at x.t (Lh (bL ai) sp);have hf33:cellAt H3 bf 3=some (.slice (some ⟨bl,0,none⟩) lf.length cl):=cellAt.mono Uu (aq.trans (aQ.trans bJ));refine .region (.o (.alloc hs gY rfl fun mU w hs=>?_));refine .o (.aE (vs:=x.v) hs rfl rfl aV fun w hs=>?_);refine .nil (nT ⟨H3,[.blk mU x.v,.blk b9 [.bool ag],.blk b6 [.slice (some ⟨A3,0,none⟩) (N+1) (N+1)],.blk A3 (kB Ei.by_),.blk b5 [.slice (some ⟨bc,0,none⟩) (N+1) (N+1)],.blk bc (Is Ei.cost),.blk b2 [Pt bf]],HLe.refl _,hs,?_⟩);rintro w nr - hs;refine .block (.seq (.draw mix rfl hs fun w hs=>?_));refine .y 0 rfl hs an ?_;refine .z 1 rfl (zfa dk) ?_;refine .y 2 rfl hs aj ?_;first|(refine .ixv 3 rfl hs af ak ?_;intro b55 o55 SG)|refine .z 3 rfl (zix af ak) ?_
    refine .y 4 rfl hs aj ?_;refine .z 5 rfl ju ?_;refine .z 6 rfl zm ?_;refine .iY (t':=58) rfl (fun HV=>?_) (fun HV=>?_)
    ·refine .y 7 rfl hs an ?_;refine .z 8 rfl (zfa dk) ?_;refine .y 9 rfl hs aj ?_;first|(refine .ixv 10 rfl hs af ak ?_;intro Rf o62 WT)|refine .z 10 rfl (zix af ak) ?_
     refine .y 11 rfl hs aj ?_;refine .z 12 rfl (zfa fM) ?_;refine .y 13 rfl hs aj ?_;refine .z 14 rfl cD ?_;refine .y 15 rfl hs an ?_;refine .z 16 rfl (zfa dt) ?_;refine .y 17 rfl hs aj ?_;first|(refine .ixv 18 rfl hs af ak ?_;intro b70 o70 SF)|refine .z 18 rfl (zix af ak) ?_
     refine .y 19 rfl hs aj ?_;refine .z 20 rfl ju ?_;refine .z 21 rfl zpT ?_;refine .z 22 rfl zm ?_;refine .iY (t':=74) rfl (fun HU=>?_) (fun HU=>?_)
     ·refine .y 23 rfl hs OI ?_;refine .z 24 rfl znc ?_;refine .z 25 rfl (zfa dP) ?_;refine .y 26 rfl hs an ?_;refine .z 27 rfl (zfa dt) ?_;refine .y 28 rfl hs aj ?_;first|(refine .ixv 29 rfl hs af ak ?_;intro b81 o81 hc81)|refine .z 29 rfl (zix af ak) ?_
      refine .y 30 rfl hs aj ?_;refine .z 31 rfl Ct ?_;refine .z 32 rfl zm ?_;refine .iY (t':=84) rfl (fun P2=>?_) (fun P2=>?_)
      ·refine .F 33 rfl (.F 34 rfl (.F 35 rfl (.F 36 rfl (.F 37 rfl (.F 38 rfl (.F 39 rfl (.F 40 rfl (.F 41 rfl (.zw 42 rfl zpT ?_)))))))));refine .z 43 rfl zpT ?_;refine .D hs ?_;refine (.cT (.draw mix rfl hs fun w hs=>?_));refine .y 0 rfl hs an ?_;refine .z 1 rfl (zfa dt) ?_;refine .y 2 rfl hs aj ?_;refine .y 3 rfl hs mc ?_;refine .z 4 rfl (zfa dt) ?_;refine .y 5 rfl hs aj ?_;refine .y 6 rfl hs an ?_;refine .z 7 rfl (zfa dk) ?_;refine .y 8 rfl hs aj ?_;first|(refine .ixv 9 rfl hs af ak ?_;intro X7 o105 SY)|refine .z 9 rfl (zix af ak) ?_
       refine .y 10 rfl hs aj ?_;refine .z 11 rfl (zfa fM) ?_;refine .y 12 rfl hs aj ?_;refine .z 13 rfl cD ?_;refine .EP (i:=14) (vs:=x.v) hs rfl az .none rfl pR aV ?_;first|(refine .ixv 15 rfl hs af ak ?_;intro TH o111 Kh)|refine .z 15 rfl (zix af ak) ?_
       refine .E 16 hs ?_;refine .store hs rfl rfl ak ?_;intro w hs;refine .go ?_;first|(refine .ixw 17 rfl hs aH aV ?_;intro TG o112 Ob)|refine .z 17 rfl (CO aH aV) ?_
       refine .E 18 hs ?_;refine .aE (vs:=x.v) hs rfl rfl aV ?_;intro w hs;refine .go (.E 19 hs ?_);refine .store hs rfl rfl Nu ?_;intro w hs;refine .go (.D hs (nB ?_));have:=BT.less hg hx HV HU;exact ⟨H3,_,HLe.refl _,hs.tail,Dq,Ei.rlx x,true,rfl,BT.C1 hg hx HV HU,ai,fun _=>by omega⟩
      ·refine .y 33 rfl hs an ?_;refine .z 34 rfl (zfa dk) ?_;refine .y 35 rfl hs aj ?_;first|(refine .ixv 36 rfl hs af ak ?_;intro b88 o88 hc88)|refine .z 36 rfl (zix af ak) ?_
       refine .y 37 rfl hs aj ?_;refine .z 38 rfl (zfa fM) ?_;refine .y 39 rfl hs aj ?_;refine .z 40 rfl cD ?_;refine .z 41 rfl ju ?_;refine .z 42 rfl zpF ?_;refine .z 43 rfl zpT ?_;refine .D hs ?_;refine (.cg rfl (fun PS=>?_) (fun PS=>?_))
       ·refine .draw mix rfl hs fun w hs=>?_
        refine .y 0 rfl hs an ?_;refine .z 1 rfl (zfa dt) ?_;refine .y 2 rfl hs aj ?_;refine .y 3 rfl hs mc ?_;refine .z 4 rfl (zfa dt) ?_;refine .y 5 rfl hs aj ?_;refine .y 6 rfl hs an ?_;refine .z 7 rfl (zfa dk) ?_;refine .y 8 rfl hs aj ?_;first|(refine .ixv 9 rfl hs af ak ?_;intro X7 o105 SY)|refine .z 9 rfl (zix af ak) ?_
        refine .y 10 rfl hs aj ?_;refine .z 11 rfl (zfa fM) ?_;refine .y 12 rfl hs aj ?_;refine .z 13 rfl cD ?_;refine .EP (i:=14) (vs:=x.v) hs rfl az .none rfl pR aV ?_;first|(refine .ixv 15 rfl hs af ak ?_;intro TH o111 Kh)|refine .z 15 rfl (zix af ak) ?_
        refine .E 16 hs ?_;refine .store hs rfl rfl ak ?_;intro w hs;refine .go ?_;first|(refine .ixw 17 rfl hs aH aV ?_;intro TG o112 Ob)|refine .z 17 rfl (CO aH aV) ?_
        refine .E 18 hs ?_;refine .aE (vs:=x.v) hs rfl rfl aV ?_;intro w hs;refine .go (.E 19 hs ?_);refine .store hs rfl rfl Nu ?_;intro w hs;refine .go (.D hs (nB ?_));have:=BT.less hg hx HV HU;exact ⟨H3,_,HLe.refl _,hs.tail,Dq,Ei.rlx x,true,rfl,BT.C1 hg hx HV HU,ai,fun _=>by omega⟩
       ·refine .skip (nB ?_);have:=BT.src x.t c2 ai;omega
     ·refine .F 23 rfl (.F 24 rfl (.F 25 rfl (.F 26 rfl (.F 27 rfl (.F 28 rfl (.F 29 rfl (.F 30 rfl ?_)))))));refine .F 31 rfl (.F 32 rfl (.F 33 rfl (.F 34 rfl (.F 35 rfl (.F 36 rfl (.F 37 rfl (.F 38 rfl (.F 39 rfl (.F 40 rfl (.F 41 rfl (.F 42 rfl (.zw 43 rfl zpF ?_))))))))))));refine .D hs ?_;exact (.cF (.skip (nB ⟨H3,_,HLe.refl _,hs.tail,Dq,Ei,ag,rfl,BT.skip hx (fun h=>HU h.2),IA,NX⟩)))
    ·refine .F 7 rfl (.F 8 rfl ?_);refine .F 9 rfl (.F 10 rfl (.F 11 rfl (.F 12 rfl (.F 13 rfl (.F 14 rfl (.F 15 rfl (.F 16 rfl (.F 17 rfl (.F 18 rfl (.F 19 rfl (.F 20 rfl (.zw 21 rfl zpF ?_))))))))))));refine .z 22 rfl zm ?_;refine .F 23 rfl (.F 24 rfl (.F 25 rfl (.F 26 rfl (.F 27 rfl (.F 28 rfl (.F 29 rfl (.F 30 rfl ?_)))))));refine .F 31 rfl (.F 32 rfl (.F 33 rfl (.F 34 rfl (.F 35 rfl (.F 36 rfl (.F 37 rfl (.F 38 rfl (.F 39 rfl (.F 40 rfl (.F 41 rfl (.F 42 rfl (.zw 43 rfl zpF ?_))))))))))));refine .D hs ?_;exact (.cF (.skip (nB ⟨H3,_,HLe.refl _,hs.tail,Dq,Ei,ag,rfl,BT.skip hx (fun h=>HV h.1),IA,NX⟩)))
   ·rintro D3 H3 Lw w bJ ⟨Dq,Ei,ag,rfl,BT,IA,NX⟩ hs;replace hs:St H3 w (.blk b9 [.bool ag]:: .blk b6 [.slice (some ⟨A3,0,none⟩) (N+1) (N+1)]:: .blk A3 (kB Ei.by_):: .blk b5 [.slice (some ⟨bc,0,none⟩) (N+1) (N+1)]:: .blk bc (Is Ei.cost):: .blk b2 [Pt bf]::(mes (D3::Ds)++σ)):=St.deep (σ1:=[_,_,_,_,_,_]) hs;rw [List.length_map] at BT;refine nB (nB (nT (.ae (.y hs (zld isAgg4) (.nil (.region (.o (.alloc hs zeroValue4 rfl fun b9 w hs=>?_))))))));refine .o (.store hs rfl rfl Nu fun w hs=>?_);refine .nil (nT ?_);exact ⟨(b9,D3::Ds,H3,Ei,ag),aW,⟨aq.trans (aQ.trans bJ),⟨_,BT,fun _=>rfl⟩,hs.sb⟩,by
      dsimp only
      cases ag with
      |false=>simp;omega
      |true=>have:=NX rfl;simp;omega⟩
  ·refine .exit (xT (xT (xB (nT (.seq (.ae ?_))))));subst pG;obtain rfl:=hj rfl;refine .y hs (zld an) (.z zm ?_);first|(refine .ixv hs af ak ?_;intro b116 o116 Zo)|refine .z (zix af ak) ?_
   refine .y hs (zld aj) (.zn ik (.cg rfl (fun N9=>?_) (fun N9=>?_)))
   ·refine .ae (.zn zg (.ret (rT ((Fin.hZ Ds [_,_,_,_,_,_] hs fun w hs=>⟨_,results1 results272 rfl,H1,[],.nul,aq,.nil 4 none,(hs.sb).nul,hW.none hg N9⟩)))))
   ·refine .skip (nT (.ae (.zn zg (.seq (.ae (.z zm (.zn zg (.block ?_))))))));have JW:gi st.cost to<far:=by have:=hW.top to sG;have e:far=1152921504606846976:=rfl;omega
    obtain ⟨kk,cc,u,Lq,wm,PL,Lo,ob,Vx⟩:=hW.back hg sG JW V1;refine .loop (fun p:Nat×Nat×Value×Ent=>⟨141,marks Ds,[(11,p.2.2.1),(12,I p.2.1),(6,Pt b6)]⟩)
     (fun p w=>p.1≤kk∧(p.2.1<N+1∧gi st.cost p.2.1<far)∧cz 4 p.2.2.1 (kB (px st.by_ to p.1)) p.2.2.2∧(∃d,iD st.by_ to p.1 d p.2.1)∧(∃d,iD st.by_ p.2.1 (kk - p.1) d u)∧
      St H1 w (p.2.2.2:: .blk b9 [.bool false]:: .blk b6 [.slice (some ⟨A3,0,none⟩) (N+1) (N+1)]:: .blk A3 (kB st.by_):: .blk b5 [.slice (some ⟨bc,0,none⟩) (N+1) (N+1)]:: .blk bc (Is st.cost):: .blk b2 [Pt bf]::(mes Ds++σ)))
     (fun p=>kk - p.1) (0,to,.slice none 0 0,.nul) aW ⟨Nat.zero_le _,⟨sG,JW⟩,.nil 4 none,⟨0,.nil⟩,⟨cc,Lq⟩,hs.nul⟩ ?_
    rintro ⟨i,v,v11,en⟩ w ⟨hik,⟨YM,Vz⟩,hO,⟨d1,CB⟩,⟨d2,zG⟩,hs⟩;dsimp only at hik YM Vz hO CB zG hs ⊢;have Vy:v<st.by_.length:=by omega
    refine .seq (.ae (.y hs (zld mc) (.z zm ?_)));first|(refine .ixw hs aH aV ?_;intro b122 o122 Zm)|refine .z (CO aH aV) ?_
    refine .z (zfa dO) (.q hs (ja rfl aj (hv:=(uv Vy (j:=3) ai).trans rfl)) (.zn Ct (.cg rfl (fun Kg=>?_) (fun Kg=>?_))))
    ·refine .skip (nT (.seq (.block (.region (.z zm (.y hs (zld mc) (.z zm ?_)))))));first|(refine .ixw hs aH aV ?_;intro X4 o134 Gp)|refine .z (CO aH aV) ?_
     refine .q hs (mD (vs:=(ga st.by_ v).v) rfl pR aV (hv:=G2 Vy)) (.o (.buildSlice (cells:=(ga st.by_ v).v) hs sM rfl rfl fun X3 w hs=>?_));refine .o (.append (ys:=(ga st.by_ v).v) hs mg rfl rfl hO (.own .here rfl rfl) (by simp [Arc.v,Value.oneCell']) (fun l h=>by rw [dI,kV] at h;omega) ?_);intro v137 en137 w eb hs;refine .zn zg (nB (nT (.region (.y hs (zld mc) (.z zm ?_)))));first|(refine .ixw hs aH aV ?_;intro X5 o128 SX)|refine .z (CO aH aV) ?_
     refine .z (zfa dk) (.q hs (ja rfl aj (hv:=(uv Vy (j:=0) ai).trans rfl)) (.zn zg (nT ?_)));obtain ⟨g1,g2⟩:=ob v YM Vz Kg;obtain ⟨m,hm⟩:∃m,kk - i=m+1:=by
      refine ⟨kk - i - 1,?_⟩
      rcases Nat.lt_or_ge i kk with h|h
      ·omega
      ·obtain e:kk - i=0:=by omega
       rw [e] at zG;cases zG
       omega
     rw [hm] at zG
     obtain ⟨d3,UC⟩:∃d,iD st.by_ (ga st.by_ v).f m d u:=by cases zG with|cons _ t=>exact ⟨_,t⟩
     rw [←Ll,←G8 CB] at eb;exact ⟨(i+1,(ga st.by_ v).f,v137,en137),aW,⟨by dsimp only;omega,⟨g1,g2⟩,eb,⟨_,CB.trans (.cons Kg .nil)⟩,⟨d3,by rw [show kk - (i+1)=m by omega];exact UC⟩,hs.sb⟩,by dsimp only;omega⟩
    ·refine .exit (xT (xT (xB (nT (.ae ?_)))));obtain rfl:i=kk:=by
      rcases Nat.lt_or_ge i kk with h|h
      ·obtain ⟨m,hm⟩:∃m,kk - i=m+1:=⟨kk - i - 1,ai⟩;rw [hm] at zG
       cases zG with
       |cons hl _=>omega
      ·omega
     refine .z zm (.o (.call call297 rfl (r9 hs hO (by rw [kV];omega)) ?_));rintro v139 w ⟨j9,Ti,hs⟩;refine .nil (.ae (.z zm (.zn zg (.ret (Fin.hZ Ds [_,_,_,_,_,_,_] hs fun w hs=>⟨_,results1 results272 rfl,H1,_,j9,aq,Ti,hs.sb,Vx _ rfl⟩)))))
theorem GX{s:cM}{x:Arc}(aJ:s.Ok)(hx:Il s.da x):∃(i:Nat) (l:Lim),s.cJ[i]? =some l∧x.l=(i:Int)∧(l.A=(x.f:Int)↔fwd s.da x)∧i<s.cJ.length:=by
 obtain ⟨i,y,h1,h2⟩:=hx;have hl:=uk h1;have eX:i<s.cJ.length:=by have:=(List.getElem?_eq_some_iff.1 h1).1;simpa [cM.da,dU] using this
 obtain ⟨l,Ln⟩:=nth eX;have h3:=kQ Ln;have Oq:(oh s.cJ)[i]? =some y:=h1;rw [h3] at Oq;cases Oq
 obtain ⟨a1,a2,_⟩:=aJ.arc (List.mem_of_getElem? Ln) i;refine ⟨i,l,Ln,?_,?_,eX⟩
 ·rcases h2 with rfl|rfl<;>rfl
 ·have hg:ga s.da i=l.arc i:=by simp [ga,cM.da,h3]
  have wi:x.l.toNat=i:=by rcases h2 with rfl|rfl<;>rfl
  unfold fwd;rw [wi,hg,←a1];exact ⟨fun e=>by exact_mod_cast e,fun e=>by exact_mod_cast e⟩
theorem lA{w:World}{s:cM}{vd:Value}{x:Arc}(hs:St H w σ)(aJ:s.Ok)(hf:Row H bf [I s.many,vl,vt,vd])(hl:RL H vl s.cJ)(hx:Il s.da x):
  Z4 298 [Pt bf,.agg x.v.toArray] w fun v w'=>v= .bool (decide (fwd s.da x))∧St H w' σ:=by
 obtain ⟨i,l,ML,wi,hfw,sW⟩:=GX aJ hx;have Zd:cellAt H bf 1=some vl:=hf.at 1;refine Cl.o func298 ntmps298 ag2 ?_;refine .ae (.bx hs fun b3 w hs=>?_);refine .zn zg (.seq (.draw mix rfl hs fun w hs=>?_));refine .zw 0 rfl zm ?_;refine .z 1 rfl znc ?_;refine .z 2 rfl (zfa fN) ?_;refine .z 3 rfl (zfa bM) ?_;refine .y 4 rfl hs eL ?_;refine .z 5 rfl (zfa dO) ?_;refine .y 6 rfl hs aj ?_;refine .ixX (i:=7) hs rfl az .none hl rfl rfl aU bO ML wi ?_;intro Fx o12 eT;have hA:cellAt H Fx o12=some (I l.A):=eT.get 0 rfl;refine .zw 8 rfl (zfa dR) ?_;refine .y 9 rfl hs aj ?_;refine .z 10 rfl (zfa dk) ?_;refine .y 11 rfl hs aj ?_;refine .z 12 rfl ik ?_;refine .z 13 rfl zg ?_;refine .D hs ?_;exact .ret (Fin.bw results298 rfl ⟨by simp only [decide_eq_decide.2 hfw],hs.out⟩)
theorem rq{w:World}{u v:Nat}{s:cM}{wt:Nat→Int}{p:List Arc}(hs:St H w (.blk bt (Is ts):: .blk bl (Is lf++sp)::σ))(aJ:s.Ok)
  (hf:Row H bf [I s.many,vl,.slice (some ⟨bt,0,none⟩) ts.length ts.length,.slice (some ⟨bl,0,none⟩) lf.length cl]) (hl:RL H vl s.cJ) (hp:RS H 4 vp (p.map Arc.v)) (hI:Cr s.n s.da wt ts lf) (hw:Qy s.da ts lf s.n p u v) (PD:p≠[]) (Iy:p.length<s.n):
  Z4 273 [Pt bf,vp] w fun _ w'=>St H w' (.blk bt (Is (ie s.da (wh s.da ts lf p u v) ts p)):: .blk bl (Is (ES lf (wh s.da ts lf p u v) u v)++sp)::σ):=by
 have UJ:=aJ.m1;have Dm:s.n≤65:=by simp only [cM.n];have:=aJ.m0;omega
 have HH:GY s.da:=fun i x hx=>⟨uk hx,(aJ.da.2 x (List.mem_of_getElem? hx)).2.2.2.2.2⟩
 have eX:=hI.lt;have yK:=hI.ll;obtain ⟨m0,m1,m2,m3⟩:=BE eX.symm HH hw;have hsu:=hI.sg u hw.un;have hsv:=hI.sg v hw.vn;have NR:u<lf.length:=by rw [yK];exact hw.un
 have Ua:v<lf.length:=by rw [yK];exact hw.vn
 obtain ⟨a,cap,YL⟩:=hp.shape;rw [List.length_map] at YL;subst YL;have hp0:0<p.length:=List.length_pos_iff.2 PD;obtain ⟨x0,Cv⟩:=nth hp0;obtain ⟨x1,Ej⟩:=nth (l:=p) (k:=p.length - 1) ai;have hh:=hw.ch.head Cv;have PJ:=hw.ch.last Ej;have Wu:cellAt H bf 2=some (.slice (some ⟨bt,0,none⟩) ts.length ts.length):=hf.at 2;have Uu:cellAt H bf 3=some (.slice (some ⟨bl,0,none⟩) lf.length cl):=hf.at 3;have Su:∀x∈p,Il s.da x∧x.l.toNat<ts.length∧x.l=(x.l.toNat:Int):=fun x hx=>by
  obtain ⟨g1,g2,_⟩:=oA eX.symm HH (hw.mem x hx);obtain ⟨i,l,_,g3,_⟩:=GX aJ g1;exact ⟨g1,g2,by rw [g3];simp⟩
 simp only [FF] at hsu hsv;have NQ:v≠u:=fun e=>by have:=hw.lu;have:=hw.lv;rw [e] at*;omega
 have htt:∀i<ts.length,0≤gi ts i∧gi ts i≤3600000000000:=fun i hi=>by
  have h1:=hI.nn i ai;have h2:=hI.tb i ai;have h3:0≤rem s.n lf:=df fun v _=>by omega
  simp only [FF] at h2;omega
 have hM:wh s.da ts lf p u v=least s.da ts (min (-gi lf u) (gi lf v)) p:=rfl;generalize wh s.da ts lf p u v=M at*;have Wp:gi (lf.set u (gi lf u+M)) v=gi lf v:=by rw [ig NR,if_neg NQ]
 refine Cl.o func273 ntmps273 ag2 ?_;refine .seq (.draw mix rfl hs fun w hs=>?_);refine .zw 0 rfl zm (.ixX (i:=1) hs rfl az .none hp rfl rfl aH aV Cv rfl ?_);intro Fx o12 eT;have h14:cellAt H Fx (o12+0)=some (I u):=by rw [←hh];exact eT.get 0 rfl
 refine .zw 2 rfl (zfa dk) ?_;refine .y 3 rfl hs aj ?_;refine .z 4 rfl zm ?_;refine .z 5 rfl zm ?_;refine .z 6 rfl (de aH) ?_;refine .z 7 rfl iX ?_;refine .ixX (i:=8) hs rfl az .none hp rfl rfl aH aV Ej ai ?_;intro Ak o19 oG;have h21:cellAt H Ak (o19+1)=some (I v):=by rw [←PJ];exact oG.get 1 rfl
 refine .zw 9 rfl (zfa dt) ?_;refine .y 10 rfl hs aj ?_;refine .z 11 rfl zg ?_;refine .z 12 rfl zg ?_;refine .D hs ?_;refine .seq (.draw mix rfl hs fun w hs=>?_);refine .zw 0 rfl zm ?_;refine .z 1 rfl znc ?_;refine .z 2 rfl (zfa dP) ?_;refine .y 3 rfl hs an ?_;refine .z 4 rfl zm ?_;first|(refine .ixv 5 rfl hs af ak ?_;intro A3 o27 pH)|refine .z 5 rfl (zix af ak) ?_
 refine .load (i:=6) hs rfl az .none rfl aj ?_ (hv:=gz NR sp);refine .zw 7 rfl G4 ?_;refine .z 8 rfl zm ?_;refine .z 9 rfl znc ?_;refine .z 10 rfl (zfa dP) ?_;refine .y 11 rfl hs an ?_;refine .z 12 rfl zm ?_;first|(refine .ixv 13 rfl hs af ak ?_;intro UU o35 yU)|refine .z 13 rfl (zix af ak) ?_
 refine .load (i:=14) hs rfl az .none rfl aj ?_ (hv:=gz Ua sp);refine .zw 15 rfl G5 ?_;refine .z 16 rfl zg ?_;refine .D hs ?_;refine .seq (.ae (.z zm (.z (de aH) (.zn zm (.for (N:=p.length) (J:=fun k fr w=>fr=[(38,.slice a p.length cap),(6,I (least s.da ts (min (-gi lf u) (gi lf v)) (p.take k))),(0,Pt bf),(1,.slice a p.length cap),(4,I u),(5,I v)]∧St H w (.blk bt (Is ts):: .blk bl (Is lf++sp)::σ)) ai ?_ ?_ ?_)))))
 ·exact .mk ⟨rfl,hs⟩
 ·rintro k fr w hk ⟨rfl,hs⟩;obtain ⟨x,hx⟩:=nth hk;obtain ⟨g1,g2,g3⟩:=Su x (List.mem_of_getElem? hx);refine .block (.ae (.ixX hs hp rfl rfl aH aV hx rfl ?_));intro XT o42 Du;refine .q hs (bH (vs:=x.v) rfl pR aV Du) (.o (.alloc hs gY rfl fun b8 w hs=>?_));refine .o (.aE (vs:=x.v) hs rfl rfl aV fun w hs=>?_);refine .nil (.ae (.z zm (.q hs (mD (vs:=x.v) rfl pR aV) (.o (.call call298 rfl (lA hs aJ hf hl g1) ?_)))));rintro _ w ⟨rfl,hs⟩;refine .zn ia (.cond rfl (fun tI=>?_) (fun tI=>?_))
  ·refine .draw mix rfl hs fun w hs=>?_
   refine .zw 0 rfl zm ?_;refine .z 1 rfl zm ?_;refine .z 2 rfl znc ?_;refine .z 3 rfl (zfa gV) ?_;refine .y 4 rfl hs an ?_;refine .z 5 rfl (zfa dO) ?_;refine .y 6 rfl hs aj ?_;refine .zw 7 rfl (kM (k:=x.l.toNat) rfl rfl af ak g3 g2) (.y 8 rfl hs aj ?_);refine .z 9 rfl G5 ?_;refine .z 10 rfl zg ?_;refine .D hs ?_;refine nB (nT ?_);have e:min (least s.da ts (min (-gi lf u) (gi lf v)) (p.take k)) (gi ts x.l.toNat)=least s.da ts (min (-gi lf u) (gi lf v)) (p.take (k+1)):=by rw [dA hx,AN,if_neg (by simpa using tI)]
   exact .mk ⟨rfl,hs.tail⟩ (hs:= .cons rfl (.cons rfl (.cons rfl (.dc rfl e (.cons rfl (.cons rfl (.cons rfl (.cons rfl (.nil rfl rfl)))))))))
  ·refine .skip (nB (nT ?_));have e:least s.da ts (min (-gi lf u) (gi lf v)) (p.take k)=least s.da ts (min (-gi lf u) (gi lf v)) (p.take (k+1)):=by rw [dA hx,AN,if_pos (by simpa using tI)]
   exact .mk ⟨rfl,hs.tail⟩ (hs:= .cons rfl (.cons rfl (.cons rfl (.dc rfl e (.cons rfl (.cons rfl (.cons rfl (.cons rfl (.nil rfl rfl)))))))))
 ·rintro fr w ⟨rfl,hs⟩;have e6:least s.da ts (min (-gi lf u) (gi lf v)) (List.take p.length p)=M:=by rw [List.take_length];exact hM.symm
  rw [e6];refine nT (.seq (.ae (.z zm (.z (de aH) (.zn zm (.for (N:=p.length) (J:=fun k fr w=>fr=[(59,.slice a p.length cap),(6,I M),(0,Pt bf),(1,.slice a p.length cap),(4,I u),(5,I v)]∧St H w (.blk bt (Is (ie s.da M ts (p.take k))):: .blk bl (Is lf++sp)::σ)) ai ?_ ?_ ?_))))))
  ·exact .mk ⟨rfl,hs⟩
  ·rintro k fr w hk ⟨rfl,hs⟩;obtain ⟨x,hx⟩:=nth hk;obtain ⟨g1,g2,g3⟩:=Su x (List.mem_of_getElem? hx);have hpl2:=ow s.da M (p.take k) ts;have zF:=Jl (es:=s.da) (m:=M) (ts:=ts) (p:=p.take k) ai (by simp only [FF];omega) (by rw [List.length_take];omega) (fun y hy=>(Su y (List.mem_of_mem_take hy)).2.1) x.l.toNat;have h9:=htt _ g2;refine .block (.ae (.ixX hs hp rfl rfl aH aV hx rfl ?_));intro UQ o63 rj;refine .q hs (bH (vs:=x.v) rfl pR aV rj) (.o (.alloc hs gY rfl fun mU w hs=>?_));refine .o (.aE (vs:=x.v) hs rfl rfl aV fun w hs=>?_);refine .nil (.ae (.z zm (.q hs (mD (vs:=x.v) rfl pR aV) (.o (.call call298 rfl (lA hs aJ hf hl g1) ?_)))));rintro _ w ⟨rfl,hs⟩;refine .nil (.cond rfl (fun E4=>?_) (fun E4=>?_))
   ·refine .draw mix rfl hs fun w hs=>?_
    refine .zw 0 rfl zm ?_;refine .z 1 rfl znc ?_;refine .z 2 rfl (zfa gV) ?_;refine .y 3 rfl hs an ?_;refine .z 4 rfl (zfa dO) ?_;refine .y 5 rfl hs aj ?_;refine .zw 6 rfl (kM (k:=x.l.toNat) rfl rfl af ak g3 g2) (.y 7 rfl hs aj ?_);refine .z 8 rfl zm ?_;refine .z 9 rfl cD ?_;refine .zw 10 rfl (kM (k:=x.l.toNat) rfl rfl af ak g3 g2) (.E 11 hs ?_);refine .store hs rfl rfl ak ?_;intro w hs;refine .go (.D hs (nB (nT ?_)));have e:ie s.da M ts (p.take (k+1))=(ie s.da M ts (p.take k)).set x.l.toNat (gi (ie s.da M ts (p.take k)) x.l.toNat+M):=by rw [dA hx,yv,push,if_pos (by simpa using E4)]
    exact .mk ⟨rfl,by rw [e];exact hs.tail⟩
   ·refine .draw mix rfl hs fun w hs=>?_
    refine .zw 0 rfl zm ?_;refine .z 1 rfl znc ?_;refine .z 2 rfl (zfa gV) ?_;refine .y 3 rfl hs an ?_;refine .z 4 rfl (zfa dO) ?_;refine .y 5 rfl hs aj ?_;refine .zw 6 rfl (kM (k:=x.l.toNat) rfl rfl af ak g3 g2) (.y 7 rfl hs aj ?_);refine .z 8 rfl zm ?_;refine .z 9 rfl iX ?_;refine .zw 10 rfl (kM (k:=x.l.toNat) rfl rfl af ak g3 g2) (.E 11 hs ?_);refine .store hs rfl rfl ak ?_;intro w hs;refine .go (.D hs (nB (nT ?_)));have e:ie s.da M ts (p.take (k+1))=(ie s.da M ts (p.take k)).set x.l.toNat (gi (ie s.da M ts (p.take k)) x.l.toNat - M):=by rw [dA hx,yv,push,if_neg (by simpa using E4)]
    exact .mk ⟨rfl,by rw [e];exact hs.tail⟩
  ·rintro fr w ⟨rfl,hs⟩;rw [List.take_length] at hs;refine nT (.ae (.z zm (.z znc (.z (zfa dP) (.y hs (zld an) (.z zm ?_))))));first|(refine .ixv hs af ak ?_;intro b96 o96 MR)|refine .z (zix af ak) ?_
   refine .q hs (ja rfl aj (hv:=gz NR sp)) (.z zm (.z cD ?_));first|(refine .ixv hs af ak ?_;intro TI o100 wz)|refine .z (zix af ak) ?_
   refine .o (.store hs rfl rfl ak ?_ eJ (qI NR sp) (mS NR sp _));intro w hs;refine .nil (.region (.z zm (.z znc (.z (zfa dP) (.y hs (zld an) (.z zm ?_))))));first|(refine .ixv hs af ak ?_;intro X6 o106 Dy)|refine .z (zix af ak) ?_
   refine .q hs (ja rfl aj (hv:=gz (by rw [List.length_set];exact Ua) sp)) ?_;refine .z zm (.z iX ?_);first|(refine .ixv hs af ak ?_;intro b110 o110 Zq)|refine .z (zix af ak) ?_
   refine .o (.store hs rfl rfl ak ?_ eJ (qI (by rw [List.length_set];exact Ua) sp) (mS (by rw [List.length_set];exact Ua) sp _));intro w hs;exact .nil (Fin.DS results273 hs)
theorem JF{w:List Int}{N:Nat}(hw:w.length=N+1):gi (w.set 0 (-na w k)) 0 - gi (w.set 0 (-na w k)) (k+1)= -na w (k+1):=by
 rw [ig ai,ig ai,if_pos rfl,if_neg ai];simp only [na,aM];omega
theorem zd{w:World}{v:Value}{s:cM}(hs:St H w σ)(aJ:s.Ok)(hr:RSy H v s)(wk:RI H vw ws)(Gl:ws.length=s.n)(nZ:kJ ws)(JS:s.Sound):
  Z4 224 [v,vw] w fun v w'=>(v= .tuple #[.pointer none,.bool false]∧sS s.da (pP ws s.n) s.n∧St H w' σ)∨
   (∃H1 bf bt bl cl ts lf vl sp,HLe H H1∧v= .tuple #[Pt bf,.bool true]∧xl H1 bf s ts lf vl bt bl cl sp∧nq s.n s.da (pP ws s.n) ts∧St H1 w' σ):=by
 obtain ⟨vl,rfl,hr⟩:=hr;obtain ⟨al,cpl,rfl⟩:=RL.shape hr;obtain ⟨aw,cw,rfl⟩:=RI.shape wk;obtain ⟨N,hN⟩:=Int.eq_ofNat_of_zero_le aJ.m0;have UJ:=aJ.m1;have hn:s.n=N+1:=by simp [cM.n,hN]
 have J0:=aJ.len;have oC:=aJ.da;have CC:s.da.length=s.cJ.length:=by simp [cM.da,dU]
 have HH:GY s.da:=fun i x hx=>⟨uk hx,(aJ.da.2 x (List.mem_of_getElem? hx)).2.2.2.2.2⟩
 have gd:∀x∈s.da,x.f<s.n∧x.t<s.n:=fun x hx=>by have:=oC.2 x hx;omega
 have Vw:=ND ws (n:=s.n) ai;unfold kJ at nZ;rw [Gl] at nZ;refine Cl.o func224 ntmps224 ag2 ?_;refine .ae (.bx hs fun b2 w hs=>?_);refine .z zg (.zn zg (.scope (.cut (fun fs w=>∃bf bt bl cl sp,mT fs ⟨73,[],[(6,Pt bf)]⟩∧St H w (.blk bf [I s.many,.slice al s.cJ.length cpl,.slice (some ⟨bt,0,none⟩) s.cJ.length s.cJ.length,.slice (some ⟨bl,0,none⟩) ws.length cl]:: .blk bt (Is (List.replicate s.cJ.length 0)):: .blk bl (Is ws++sp)::σ)) ?_ ?_)))
 ·refine .draw mix rfl hs fun w hs=>?_
  refine .ys 0 rfl hs [_,_] cf bg ?_;refine .z 1 rfl (zfa bM) ?_;refine .y 2 rfl hs eL ?_;refine .z 3 rfl (de aU) ?_;refine .z 5 rfl zm ?_;refine .e2 (i:=4) (j:=6) az rfl rfl rfl rfl .none .none hs ?_ ?_
  ·refine .BJ s.cJ.length hs rfl rfl af pN rfl ak dw ai ?_;intro Ch w hs;refine .go (.E 6 hs ?_);refine .call call171 rfl (jG hs wk ai) ?_;rintro v17 w ⟨en17,hO,hs⟩;obtain ⟨bl,cl,sp,rfl,rfl,AQ⟩:=hO.some ai;refine .go (.zw 7 rfl (zbd [_,_,_,_] rO) (.E 8 hs ?_));refine .box hs rfl rfl ?_;intro Ak w hs;refine .go (.zw 9 rfl zg ?_);refine .D hs ?_;exact nT ⟨Ak,Ch,bl,cl,sp,aW,hs.sb⟩
  ·refine .call call171 rfl (jG hs wk ai) ?_;rintro v17 w ⟨en17,hO,hs⟩;obtain ⟨bl,cl,sp,rfl,rfl,AQ⟩:=hO.some ai;refine .go (.E 4 hs ?_);refine .BJ s.cJ.length hs rfl rfl af pN rfl ak dw ai ?_;intro Ch w hs;refine .go (.zw 7 rfl (zbd [_,_,_,_] rO) (.E 8 hs ?_));refine .box hs rfl rfl ?_;intro Ak w hs;refine .go (.zw 9 rfl zg ?_);refine .D hs ?_;exact nT ⟨Ak,Ch,bl,cl,sp,aW,hs.sb⟩
 ·rintro fs w ⟨bf,bt,bl,cl,sp,iR,hs⟩;refine WE.sub ?_ iR;obtain ⟨H1,aq,Xm,hs⟩:=hs.bZ .here;have Ze:cellAt H1 bf 0=some (I (N:Int)):=by have:=Xm.at 0 (v:=I s.many);rwa [hN] at this
  have Uu:cellAt H1 bf 3=some (.slice (some ⟨bl,0,none⟩) ws.length cl):=Xm.at 3;have Cx:=hr.mono aq;refine .ae (.z zm (.z znc (.z (zfa dP) (.y hs (zld an) (.q hs (kM (k:=0) rfl rfl af ak rfl ai) (.o (.store hs rfl rfl ak ?_ eJ (qI ai sp) (mS ai sp _))))))));intro w hs;refine .nil (.seq (.ae (.z zm (.z znc (.z (zfa fN) (.z (zfa bU) (.y hs (zld aj) (.zn zm (.for (N:=N) (J:=fun k fr w=>fr=[(6,Pt bf)]∧St H1 w (.blk bt (Is (List.replicate s.cJ.length 0)):: .blk bl (Is (ws.set 0 (-na ws k))++sp)::σ)) ai ?_ ?_ ?_)))))))))
  ·exact .mk ⟨rfl,by simpa [na,aM] using hs⟩
  ·rintro k fr w hk ⟨rfl,hs⟩;have e:=JF (w:=ws) (N:=N) (k:=k) ai;have CB:=Av ws (k+1);have zG:bI ws (k+1+1)≤bI ws s.n:=uO (fun v=>by omega) ai;simp only [FF] at nZ;refine .block (.ae (.z zm (.zn zg (.draw mix rfl hs fun w hs=>?_))));refine .zw 0 rfl zm ?_;refine .z 1 rfl znc ?_;refine .z 2 rfl (zfa dP) ?_;refine .y 3 rfl hs an ?_;refine .zw 4 rfl (kM (k:=0) rfl rfl af ak rfl ai) (.load (i:=5) hs rfl az .none rfl aj ?_ (hv:=gz (by rw [List.length_set];omega) sp));refine .zw 6 rfl zm ?_;refine .z 7 rfl znc ?_;refine .z 8 rfl (zfa dP) ?_;refine .y 9 rfl hs an ?_;refine .z 10 rfl zm ?_;refine .z 11 rfl cD ?_;refine .zw 12 rfl (kM (k:=k+1) rfl rfl af ak ai ai) (.load (i:=13) hs rfl az .none rfl aj ?_ (hv:=gz (by rw [List.length_set];omega) sp));refine .zw 14 rfl iX (.zw 15 rfl (kM (k:=0) rfl rfl af ak rfl ai) (.E 16 hs ?_));refine .store hs rfl rfl ak ?_ eJ (qI (by rw [List.length_set];omega) sp) (mS (by rw [List.length_set];omega) sp _);intro w hs;refine .go (.D hs (nB (nT ?_)));rw [e,List.set_set] at hs;exact .mk ⟨rfl,hs⟩
  ·rintro fr w ⟨rfl,hs⟩;have AT:Cr s.n s.da (pP ws s.n) (List.replicate s.cJ.length 0) (ws.set 0 (-na ws N)):=by
    rw [←CC,hn];rw [hn] at nZ;refine Cr.start nZ (by rw [List.length_set];omega) (fun v hv=>?_) JS;rw [ig ai]
    cases v with
    |zero=>rw [if_pos rfl,Eu]
    |succ v=>rw [if_neg ai,Ev]
   refine nT (.seq (.label (nT (.block ?_))));refine .loop (fun _:bG×List Int×List Int=>⟨73,[],[(6,Pt bf)]⟩)
    (fun p w=>HLe H1 p.1∧Cr s.n s.da (pP ws s.n) p.2.1 p.2.2∧St p.1 w (.blk bt (Is p.2.1):: .blk bl (Is p.2.2++sp)::σ)) (fun p=>(rem s.n p.2.2).toNat) (H1,List.replicate s.cJ.length 0,ws.set 0 (-na ws N))
    aW ⟨HLe.refl _,AT,hs⟩ ?_
   rintro ⟨H2,ts,lf⟩ w ⟨aQ,hI,hs⟩;dsimp only at aQ hI hs ⊢;have eX:=hI.lt;have yK:=hI.ll;have M0:Row H2 bf [I s.many,.slice al s.cJ.length cpl,.slice (some ⟨bt,0,none⟩) ts.length ts.length,.slice (some ⟨bl,0,none⟩) lf.length cl]:=by
    rw [eX,CC,yK,←Gl];exact Xm.mono aQ
   have hf32:cellAt H2 bf 3=some (.slice (some ⟨bl,0,none⟩) lf.length cl):=M0.at 3;refine .block (.seq (.ae (.z zm (.z znc (.z (zfa dP) (.y hs (zld an) (.z (de af) (.zn zm (.for (N:=lf.length) (J:=fun k fr w=>fr=[(53,.slice (some ⟨bl,0,none⟩) lf.length cl),(6,Pt bf)]∧(∀v<k,gi lf v≤0)∧St H2 w (.blk bt (Is ts):: .blk bl (Is lf++sp)::σ)) ai ?_ ?_ ?_)))))))))
   ·exact .mk ⟨rfl,fun v hv=>by omega,hs⟩
   ·rintro k fr w hk ⟨rfl,eY,hs⟩;refine .block (.ae (.z zm ?_));first|(refine .ixv hs af ak ?_;intro ZW o58 w8)|refine .z (zix af ak) ?_
    refine .q hs (ja rfl aj (hv:=gz hk sp)) (.z zg (.zn zg (.seq (.ae (.z zm (.zn sY (.cg rfl (fun yR=>?_) (fun yR=>?_))))))))
    ·refine .exit (xT (xB (nT ?_)));exact .mk ⟨rfl,fun v hv=>by
       by_cases e:v=k
       ·subst e;exact yR
       ·exact eY v ai,hs⟩
    ·refine .skip (nT (.ae (.z zm (.z zm ?_))));obtain ⟨Ha,PJ,hra,hsa,-,hba⟩:=hs.EU;obtain ⟨Hb,IB,hrb,hsb,-,El⟩:=hsa.EU;refine .o (.call call272 rfl (sK (s:=s) (to:=k) hsb aJ ⟨M0.mono (PJ.trans IB),hr.mono (aq.trans (aQ.trans (PJ.trans IB))),hra.mono IB,hrb⟩ ai ai hI.fe ai ai) ?_);rintro v64 w ⟨Hc,p,en,NZ,hO,hsc,Zx⟩;have hs:=hba (HLe.refl _) (El NZ hsc);obtain ⟨ap,lp,cp,rfl,hlp⟩:=hO.shape;obtain rfl:lp=p.length:=by rw [dI] at hlp;omega
     refine .zn zg (.seq (.ae (.z zm (.z (de aH) (.zn ik (.cg rfl (fun E4=>?_) (fun E4=>?_)))))))
     ·refine .ae (.z zg (.zn zg (.ret (rT (rB (rT (rB (rT (rB (rT (rB (rS (Fin.jr results224 rfl rfl ?_)))))))))))))
      rcases Zx with ⟨_,R,hS,hR,sG⟩|⟨hp,_⟩
      ·exact .inl ⟨rfl,hI.open gd hS hR ai sG ai,(hs.le (aq.trans aQ)).out⟩
      ·exact (hp (List.length_eq_zero_iff.1 ai)).elim
     ·refine .skip (nT (.ae (.z zm (.z zm ?_))));obtain ⟨hp,Iy,u,hw⟩:=Zx.resolve_left fun h=>by rw [h.1] at E4;exact E4 rfl
      obtain ⟨H3,bJ,hRS,hs⟩:=cz.bZ (cs:=p.map Arc.v) hO (fun c hc=>by simp only [List.mem_map] at hc;obtain ⟨x,_,rfl⟩:=hc;rfl) ai (by rw [List.length_map];omega) hs eJ;refine .o (.call call273 rfl (rq hs aJ (M0.mono bJ) (hr.mono (aq.trans (aQ.trans bJ))) hRS hI hw hp Iy) ?_);rintro v70 w hs;refine .nil (.exit (xN (xT (xN (xT (xB (nT ?_)))))));obtain ⟨q1,q2⟩:=hI.send HH hw ai;have q3:0≤rem s.n (ES lf (wh s.da ts lf p u k) u k):=df fun v _=>by omega
      exact ⟨(H3,ie s.da (wh s.da ts lf p u k) ts p,ES lf (wh s.da ts lf p u k) u k),aW,⟨aQ.trans bJ,q1,hs⟩,by dsimp only;omega⟩
   ·rintro fr w ⟨rfl,eY,hs⟩;refine nT (.ae (.z zm (.z zg (.zn zg (.ret (rB (rT (rB (rS (Fin.jr results224 rfl rfl ?_))))))))));obtain ⟨H3,l3,r3,hs⟩:=hs.bZ .here;obtain ⟨H4,l4,r4,hs⟩:=hs.bZ .here;exact .inr ⟨H4,bf,bt,bl,cl,ts,lf,_,sp,aq.trans (aQ.trans (l3.trans l4)),rfl,⟨M0.mono (l3.trans l4),hr.mono (aq.trans (aQ.trans (l3.trans l4))),r3.mono l4,r4⟩,hI.ok gd Vw (fun v hv=>eY v ai),hs⟩
theorem tW{w:World}{v:Value}(hs:St H w σ)(hr:RI H v ws):Z4 271 [v] w fun v w'=>∃b,v= .bool b∧(b=true↔kJ ws)∧St H w' σ:=by
 obtain ⟨a,c,rfl⟩:=RI.shape hr;have hl:=(RI.len hr).2.2;refine Cl.o func271 ntmps271 ag1 ?_;refine .ae (.zn zg (.ae (.zn zg (.seq (.ae (.z zm (.z (de af) (.zn zm (.for (N:=ws.length) (J:=fun k fr w=>fr=[(6,.slice a ws.length c),(3,I (3600000000000 - bI ws k))]∧bI ws k≤3600000000000∧St H w σ) ai ?_ ?_ ?_)))))))))
 ·exact .mk ⟨rfl,by simp [bI,aM],hs⟩
 ·rintro k fr w hk ⟨rfl,hle,hs⟩;have hx:=bL hk;have h0:0≤bI ws k:=df fun v _=>by omega
  have h1:bI ws (k+1)=bI ws k+max (gi ws k) (-gi ws k):=rfl;refine .block (.ae ?_);first|(refine .ixv hs af ak ?_;intro mU o10 qm)|refine .z (zix af ak) ?_
  refine .y hs (zld aj) (.zn zg (.seq (.ae (.z zm (.z zm (.z G4 (.z ju (.z zm (.iY (t':=16) rfl (fun vF=>?_) (fun vF=>?_))))))))))
  ·exact .Fs 3 4 false (.zn zpT (.cT (.ae (.zn zg (.ret (rT (rB (rT (rB (rT (Fin.bw results271 rfl ⟨false,rfl,⟨fun h=>(by cases h),fun h=>(AA (k:=k+1) hk (by simp only [FF];omega) h).elim⟩,hs⟩)))))))))))
  ·refine .T (.z zm (.T (.z zm (.T (.z nJ (.zn zpF (.cg rfl (fun tK=>?_) (fun tK=>?_))))))))
   ·exact .ae (.zn zg (.ret (rT (rB (rT (rB (rT (Fin.bw results271 rfl ⟨false,rfl,⟨fun h=>(by cases h),fun h=>(AA (k:=k+1) hk (by simp only [FF];omega) h).elim⟩,hs⟩))))))))
   ·exact .skip (nT (.region (.z zm (.z zm (.z zm (.z G4 (.z IJ (.z iX (.zn zg (nB (nT (.mk ⟨rfl,ai,hs⟩ (hs:= .cons rfl (.cons rfl (.cons rfl (.dc rfl ai (.nil rfl rfl)))))))))))))))))
 ·rintro fr w ⟨rfl,hle,hs⟩;exact nT (.ae (.zn zg (.ret (Fin.bw results271 rfl ⟨true,rfl,⟨fun _=>hle,fun _=>rfl⟩,hs⟩))))
theorem ky{w:World}{v:Value}{s:cM}(hs:St H w σ)(hr:RSy H v s)(wk:RI H vw ws):Z4 222 [v,vw] w fun v w'=>v=I (fm s ws)∧St H w' σ:=by
 obtain ⟨vl,rfl,hr⟩:=hr;obtain ⟨al,cpl,rfl⟩:=RL.shape hr;obtain ⟨aw,cw,rfl⟩:=RI.shape wk;have hlw:=(RI.len wk).2.2;have hn:s.check=0→0≤s.many∧s.many≤64∧(s.n:Int)=s.many+1:=fun h=>by
  have h1:=s.cO.1 h;have:=h1.m0;have:=h1.m1;simp only [cM.n];omega
 refine Cl.o func222 ntmps222 ag2 ?_;refine .ae (.bx hs fun b2 w hs=>?_);refine .zn zg (.seq (.ae (.y hs (zls [_,_] cf bg) (.o (.call call197 rfl (jN (s:=s) hs ⟨_,rfl,hr⟩) ?_)))));rintro _ w ⟨rfl,hs⟩;refine .zn zg (.ae (.z zm (.zn ez (.dz rfl (fun mW=>?_) (fun mW=>?_)))))
 ·exact .ae (.z zm (.zn zg (.ret (rT (Fin.bw results222 rfl ⟨by unfold fm;rw [if_pos mW],hs.tail⟩)))))
 ·refine .skip (nT (.seq (.ae (.z zm ?_))));obtain ⟨n0,n1,n2⟩:=hn mW;refine .z (de af) (.z (zfa bU) (.y hs (zld aj) (.z cD (.z ez (.z zm (.Eo (t':=17) rfl (fun Ac=>?_) (fun Ac=>?_)))))))
  ·exact .Fs 3 6 false (.zn zpT (.cT (.ae (.zn zg (.ret (rT (Fin.bw results222 rfl ⟨by unfold fm;rw [if_neg ai,if_neg ai],hs.tail⟩)))))))
  ·refine .T (.z zm (.T (.o (.call call271 rfl (tW hs wk) ?_))));rintro _ w ⟨bz,rfl,Zs,hs⟩;refine .T (.z ia (.zn zpF (.cond rfl (fun jU=>?_) (fun jU=>?_))))
   ·exact .ae (.zn zg (.ret (rT (Fin.bw results222 rfl ⟨by unfold fm;rw [if_neg ai,if_neg (fun h=>by rw [Zs.2 h.2] at jU;cases jU)],hs.tail⟩))))
   ·exact .skip (nT (.ae (.zn zg (.ret (Fin.bw results222 rfl ⟨by unfold fm;rw [if_neg ai,if_pos ⟨ai,Zs.1 (by simpa using jU)⟩],hs.tail⟩)))))
theorem jM{w:World}{v:Value}{s:cM}(hs:St H w σ)(hr:RSy H v s)(wk:RI H vw ws):
  Z4 179 [v,vw] w fun v w'=>∃H1 e pf,HLe H H1∧v= .tuple #[pf,I e]∧Io s ws e∧St H1 w' σ∧(e≠0→pf= .pointer none)∧
   (e=0→∃bf bt bl cl ts lf vl sp,pf=Pt bf∧xl H1 bf s ts lf vl bt bl cl sp∧nq s.n s.da (pP ws s.n) ts∧s.Ok∧bI ws s.n≤FF):=by
 obtain ⟨vl,rfl,hr⟩:=hr;refine Cl.o func179 ntmps179 ag2 ?_;refine .ae (.bx hs fun b2 w hs=>?_);refine .z zg (.zn zg (.seq (.ae (.y hs (zls [_,_] cf bg) (.z zm (.o (.call call222 rfl (ky (s:=s) hs ⟨_,rfl,hr⟩ wk) ?_)))))));rintro _ w ⟨rfl,hs⟩;refine .zn zg (.ae (.z zm (.zn ez (.dz rfl (fun iz=>?_) (fun iz=>?_)))))
 ·exact .ae (.z zm (.z zg (.zn zg (.ret (rT (Fin.jr results179 rfl rfl ⟨H,_,_,HLe.refl _,rfl,.bad iz,hs.tail,fun _=>rfl,fun h=>(iz h).elim⟩))))))
 ·refine .skip (nT (.seq (.ae (.y hs (zls [_,_] cf bg) ?_))));obtain ⟨aJ,Gl,nZ⟩:=uj iz;refine .o (.call call223 rfl (kx (s:=s) hs aJ ⟨_,rfl,hr⟩) ?_);rintro _ w ⟨H1,b,aq,rfl,hb,hs⟩;refine .zn ia (.cond rfl (fun iy=>?_) (fun iy=>?_))
  ·exact .ae (.z zg (.zn zg (.ret (rT (Fin.jr results179 rfl rfl ⟨H1,_,_,aq,rfl,.clash iz (fun h=>by rw [hb.2 h] at iy;cases iy),hs.tail,fun _=>rfl,fun h=>by cases h⟩)))))
  ·refine .skip (nT (.ae (.y hs (zls [_,_] cf bg) (.z zm ?_))));have JS:s.Sound:=hb.1 (by simpa using iy);refine .o (.call call224 rfl (zd (s:=s) hs aJ ⟨_,rfl,hr.mono aq⟩ (wk.mono aq) Gl nZ JS) ?_);rintro v21 w iV;obtain ⟨pf,bb,H2,aQ,rfl,hs,hT,hF⟩:∃pf bb H2,HLe H1 H2∧v21= .tuple #[pf,.bool bb]∧St H2 w (.blk b2 [I s.many,vl]::σ)∧(bb=false→pf= .pointer none∧sS s.da (pP ws s.n) s.n)∧
     (bb=true→∃bf bt bl cl ts lf vl sp,pf=Pt bf∧xl H2 bf s ts lf vl bt bl cl sp∧nq s.n s.da (pP ws s.n) ts):=by
    rcases iV with ⟨rfl,h1,h2⟩|⟨H2,bf,bt,bl,cl,ts,lf,vl,sp,h1,rfl,h2,h3,h4⟩
    ·exact ⟨_,false,H1,HLe.refl _,rfl,h2,fun _=>⟨rfl,h1⟩,fun h=>by cases h⟩
    ·exact ⟨_,true,H2,h1,rfl,h4,fun h=>(by cases h),fun _=>⟨bf,bt,bl,cl,ts,lf,vl,sp,rfl,h2,h3⟩⟩
   refine .z zm (.z zex (.z zex (.z zg (.zn zg (.seq (.ae (.z zm (.zn ia (.cond rfl (fun jT=>?_) (fun jT=>?_))))))))))
   ·exact .ae (.z zg (.zn zg (.ret (rT (Fin.jr results179 rfl rfl ⟨H2,_,_,aq.trans aQ,rfl,.opn iz JS (hT (by simpa using jT)).2,hs.tail,fun _=>rfl,fun h=>by cases h⟩)))))
   ·refine .skip (nT (.ae (.z zm (.z zg (.zn zg (.ret (Fin.jr results179 rfl rfl ?_)))))));obtain ⟨bf,bt,bl,cl,ts,lf,vl,sp,rfl,h2,h3⟩:=hF (by simpa using jT);have QY:0<s.n:=by simp [cM.n]
    have uz:s.n≤65:=by have:=aJ.m0;have:=aJ.m1;simp only [cM.n];omega
    have R3:bI ws s.n≤FF:=by unfold kJ at nZ;rwa [Gl] at nZ
    exact ⟨H2,_,_,aq.trans aQ,rfl,.ok iz JS (h3.value QY uz aJ.da R3).2.1,hs.tail,fun h=>(h rfl).elim,fun _=>⟨bf,bt,bl,cl,ts,lf,vl,sp,rfl,h2,h3,aJ,R3⟩⟩
theorem jg{w:World}{s:cM}(hs:St H w σ)(aJ:s.Ok)(hF:xl H bf s ts lf vl bt bl cl sp)(AU:nq s.n s.da (pP ws s.n) ts)(nZ:bI ws s.n≤FF):
  Z4 263 [Pt bf] w fun v w'=>v=I (dot s.da ts (·.c))∧IH s.da (s.wt ws) s.n (dot s.da ts (·.c))∧dot s.da ts (·.c)≤BB∧-BB≤dot s.da ts (·.c)∧St H w' σ:=by
 obtain ⟨ZM,UL,hFt,hFd⟩:=hF;obtain ⟨al,cpl,rfl⟩:=RL.shape UL;have J0:=aJ.len;have CC:s.da.length=s.cJ.length:=by simp [cM.da,dU]
 have eX:=AU.lt;have QY:0<s.n:=by simp [cM.n]
 have uz:s.n≤65:=by have:=aJ.m0;have:=aJ.m1;simp only [cM.n];omega
 have hv:=AU.value QY uz aJ.da nZ;have hd:=KP (es:=s.da) eX;have Zd:cellAt H bf 1=some (.slice al s.cJ.length cpl):=ZM.at 1;have Wu:cellAt H bf 2=some (.slice (some ⟨bt,0,none⟩) ts.length ts.length):=ZM.at 2;refine Cl.o func263 ntmps263 ag1 ?_;refine .ae (.zn zg (.ae (.zn zg (.seq (.ae (.z zm (.z znc (.z (zfa fN) (.z (zfa bM) (.y hs (zld eL) (.z (de aU) (.zn zm (.for (N:=s.cJ.length) (J:=fun k fr w=>fr=[(10,.slice al s.cJ.length cpl),(3,I (IntKind.i64.wrap (Ih s.da ts k))),(0,Pt bf)]∧St H w σ) ai ?_ ?_ ?_)))))))))))))
 ·exact .mk ⟨rfl,hs⟩ (hs:= .cons rfl (.cons rfl (.cons rfl (.dc rfl (by simp [Ih,aM,vA]) (.cons rfl (.nil rfl rfl))))))
 ·rintro k fr w hk ⟨rfl,hs⟩;obtain ⟨l,hl⟩:=nth hk;have hg:(ga s.da k).c=l.M:=by simp [ga,cM.da,kQ hl,Lim.arc]
  have Q1:=aJ.lim l (List.mem_of_getElem? hl);have Q2:k<ts.length:=by omega
  have QV:=AU.nn k ai;have Wz:cellAt H bt k=some (I (gi ts k)):=hFt.at k (kc Q2);have hmul:gi ts k*l.M≤72000000000000000∧-72000000000000000≤gi ts k*l.M:=by
   simp only [FF] at QV;have g1:gi ts k*l.M≤gi ts k*20000:=Int.mul_le_mul_of_nonneg_left Q1.2.2.2.1.2 QV.1;have g2:gi ts k*(-20000)≤gi ts k*l.M:=Int.mul_le_mul_of_nonneg_left Q1.2.2.2.1.1 QV.1;omega
  refine .block (.ae (.z zm (.ixX hs UL rfl rfl aU bO hl rfl ?_)));intro Ch o15 gM;refine .q hs (bH (vs:=l.c) rfl kE bO gM) (.o (.alloc hs fQ rfl fun b5 w hs=>?_));refine .z zg (.o (.aE (vs:=l.c) hs rfl rfl bO fun w hs=>?_));refine .nil (.draw mix rfl hs fun w hs=>?_);refine .zw 0 rfl zm ?_;refine .z 1 rfl zm ?_;refine .z 2 rfl znc ?_;refine .z 3 rfl (zfa gV) ?_;refine .y 4 rfl hs an ?_;refine .z 5 rfl zm ?_;refine .zw 6 rfl (kM (k:=k) rfl rfl af ak rfl Q2) (.r (i:=7) hs rfl az .none (aR rfl aj Wz) ?_);refine .zw 8 rfl (zfa fE) ?_;refine .y 9 rfl hs aj ?_;refine .z 10 rfl mV ?_;refine .zw 11 rfl (Jk rfl rfl) (.zw 12 rfl zg ?_);refine .D hs ?_;exact nB (nT (.mk ⟨rfl,hs.tail⟩ (hs:= .cons rfl (.cons rfl (.cons rfl (.dc rfl (by rw [yI];simp only [Ih,aM,hg]) (.cons rfl (.nil rfl rfl))))))))
 ·rintro fr w ⟨rfl,hs⟩;rw [←CC,←hd,kO (by have:=hv.2.2;simp only [BB] at this;omega)];exact nT (.ae (.z zm (.zn zg (.ret (Fin.bw results263 rfl ⟨rfl,hv.1,hv.2.2.1,hv.2.2.2,hs⟩)))))
theorem vO{w:World}(hs:St H w σ)(wk:RI H vw ws)(hlw:ws.length≤1000000)(hb:∀k,-9223372036854775807≤gi ws k∧gi ws k≤9223372036854775807):
  Z4 262 [vw] w fun v w'=>∃H1,HLe H H1∧RI H1 v (zC ws)∧St H1 w' σ:=by
 obtain ⟨aw,cw,rfl⟩:=RI.shape wk;refine Cl.o func262 ntmps262 ag1 ?_;refine .ae (.zn zg (.ae (.z zm (.z (de af) (.o (.BJ ws.length hs rfl rfl af pN rfl ak dw ai fun b8 w hs=>?_))))));refine .zn zg (.seq (.ae (.z zm (.z (de af) (.zn zm (.for (N:=ws.length) (J:=fun k fr w=>fr=[(9,.slice aw ws.length cw),(3,.slice (some ⟨b8,0,none⟩) ws.length ws.length)]∧∃L,(L.length=ws.length∧∀v<ws.length,gi L v=if v<k then -gi ws v else 0)∧St H w (.blk b8 (Is L)::σ)) ai ?_ ?_ ?_))))))
 ·exact .mk ⟨rfl,_,⟨bB,fun v hv=>by rw [eU _ _ hv,if_neg ai]⟩,hs⟩
 ·rintro k fr w hk ⟨rfl,L,⟨Oo,Ls⟩,hs⟩;have hx:=bL hk;have Lq:=hb k;refine .block (.ae (.z zm ?_));first|(refine .ixv hs af ak ?_;intro ka o14 js)|refine .z (zix af ak) ?_
  refine .y hs (zld aj) (.z zg (.zn zg (.region (.z zm (.z zm (.z zm (.z G4 ?_)))))));first|(refine .ixv hs af ak ?_;intro IG o20 tK)|refine .z (zix af ak) ?_
  refine .o (.store hs rfl rfl ak fun w hs=>?_);refine .nil (nB (nT (.mk ⟨rfl,_,⟨by rw [List.length_set];exact Oo,fun v hv=>?_⟩,hs⟩)));rw [ig ai];by_cases e:v=k
  ·subst e;rw [if_pos rfl,if_pos ai]
  ·rw [if_neg e,Ls v hv];congr 1;apply propext;omega
 ·rintro fr w ⟨rfl,L,⟨Oo,Ls⟩,hs⟩;obtain rfl:L=zC ws:=GF (by simp [Oo,zC]) (fun k hk=>by rw [Ls k ai,if_pos ai,GA]);refine nT (.ae (.z zm (.zn zg (.ret (Fin.bw results262 rfl ?_)))));obtain ⟨H1,g1,g2,hs⟩:=hs.bZ .here;refine ⟨H1,g1,?_,hs⟩;rw [←Oo];exact Row.RI (spare:=[]) (by simpa using g2) _ (Nat.le_refl _) ai
theorem xd{w:World}{v:Value}{s:cM}(hs:St H w σ)(hr:RSy H v s)(wk:RI H vw ws):
  Z4 219 [v,vw] w fun v w'=>∃H1 lo hi e,HLe H H1∧v= .tuple #[I lo,I hi,I e]∧gJ s ws lo hi e∧St H1 w' σ:=by
 obtain ⟨vl,rfl,hr⟩:=hr;refine Cl.o func219 ntmps219 ag2 ?_;refine .ae (.bx hs fun b2 w hs=>?_);refine .z zg (.z zg (.zn zg (.ae (.y hs (zls [_,_] cf bg) (.z zm (.o (.call call179 rfl (jM (s:=s) hs ⟨_,rfl,hr⟩ wk) ?_)))))));rintro _ w ⟨H1,e,pf,aq,rfl,hA,hs,gL,heq⟩;refine .z zm (.z zex (.z zex (.z zg (.zn zg (.seq (.ae (.z zm (.zn ez (.dz rfl (fun dN=>?_) (fun dN=>?_))))))))))
 ·exact .ae (.z zm (.z zg (.z zg (.zn zg (.ret (rT (Fin.U8 results219 rfl rfl rfl ⟨H1,_,_,_,aq,rfl,.first ⟨hA,fun _=>rfl,fun h=>(dN h).elim⟩ dN,hs.tail⟩)))))))
 ·refine .skip (nT (.seq (.draw mix rfl hs fun w hs=>?_)));refine .ys 0 rfl hs [_,_] cf bg ?_;refine .z 1 rfl zm ?_;refine .E 2 hs ?_;subst dN;obtain ⟨bf,bt,bl,cl,ts,lf,uM,sp,rfl,hF,AU,aJ,nZ⟩:=heq rfl;have Gl:=(uj hA.zero.1).2.1;have hbw:∀k,-9223372036854775807≤gi ws k∧gi ws k≤9223372036854775807:=fun k=>by
   simp only [FF] at nZ;by_cases hk:k<s.n
   ·have:=ot ws hk;omega
   ·have:gi ws k=0:=by simp [gi,List.getElem?_eq_none (show ws.length≤k by omega)]
    omega
  refine .call call262 rfl (vO hs (wk.mono aq) (by have:=aJ.m1;simp only [cM.n] at Gl;omega) hbw) ?_;rintro v21 w ⟨H2,aQ,VX,hs⟩;refine .go (.E 3 hs ?_);refine .call call179 rfl (jM (s:=s) hs ⟨_,rfl,hr.mono (aq.trans aQ)⟩ VX) ?_;rintro _ w ⟨H3,e2,pg,bJ,rfl,ZS,hs,hne2,Ww⟩;refine .go (.zw 4 rfl zm ?_);refine .z 5 rfl zex ?_;refine .z 6 rfl zex ?_;refine .z 7 rfl zg ?_;refine .z 8 rfl zg ?_;refine .D hs ?_;refine .seq (.ae (.z zm (.zn ez (.dz rfl (fun jy=>?_) (fun jy=>?_)))))
  ·refine .ae (.z zm (.z zg (.z zg (.zn zg (.ret (rT (Fin.U8 results219 rfl rfl rfl ?_)))))));obtain ⟨q1,q2,q3,q4⟩:=AU.value (by simp [cM.n]) (by have:=aJ.m0;have:=aJ.m1;simp only [cM.n];omega) aJ.da nZ;exact ⟨H3,_,_,_,aq.trans (aQ.trans bJ),rfl,.second ⟨hA,fun h=>(h rfl).elim,fun _=>⟨q1,q3,q4⟩⟩ ⟨ZS,fun _=>rfl,fun h=>(jy h).elim⟩ jy,hs.tail⟩
  ·refine .skip (nT (.ae (.z zm ?_)));subst jy;obtain ⟨bf2,bt2,bl2,cl2,ts2,lf2,vl2,sp2,rfl,hF2,XG,hok2,VF⟩:=Ww rfl;refine .o (.call call263 rfl (jg hs aJ hF2 XG VF) ?_);rintro _ w ⟨rfl,a1,a2,a3,hs⟩;simp only [BB] at a2 a3;refine .z G4 (.z zm (.o (.call call263 rfl (jg hs aJ (hF.mono (aQ.trans bJ)) AU nZ) ?_)));rintro _ w ⟨rfl,c1,c2,c3,hs⟩;exact .z zg (.z zg (.zn zg (.ret (Fin.U8 results219 rfl rfl rfl ⟨H3,_,_,_,aq.trans (aQ.trans bJ),rfl,.ok ⟨hA,fun h=>(h rfl).elim,fun _=>⟨c1,c2,c3⟩⟩ ⟨ZS,fun h=>(h rfl).elim,fun _=>⟨a1,by simp only [BB];omega,by simp only [BB];omega⟩⟩,hs.tail⟩))))
theorem qD{w:World}{s:cM}(hs:St H w σ)(aJ:s.Ok)(hF:xl H bf s ts lf vl bt bl cl sp)(AU:nq s.n s.da (pP ws s.n) ts)(nZ:bI ws s.n≤FF):
  Z4 251 [Pt bf] w fun v w'=>∃H1,HLe H H1∧RPf H1 v (dot s.da ts (·.c)) (fC ts ts.length)∧St H1 w' σ:=by
 have Wu:cellAt H bf 2=some (.slice (some ⟨bt,0,none⟩) ts.length ts.length):=hF.f.at 2;have eX:=AU.lt;have CC:s.da.length=s.cJ.length:=by simp [cM.da,dU]
 have J0:=aJ.len;refine Cl.o func251 ntmps251 ag1 ?_;refine .ae (.o (.alloc hs iZ rfl fun b2 w hs=>?_));refine .nil (.ae (.z zm (.o (.call call263 rfl (jg hs aJ hF AU nZ) ?_))));rintro _ w ⟨rfl,c1,c2,c3,hs⟩;refine .z (zbd [_,_] iB) (.o (.alloc hs iZ rfl fun b3 w hs=>?_));refine .o (.aE (vs:=[_,_]) hs rfl rfl ck fun w hs=>?_);refine .nil (.seq (.ae (.z zm (.z znc (.z (zfa gV) (.y hs (zld an) (.z (de af) (.zn zm (.for (N:=ts.length) (J:=fun k fr w=>fr=[(12,.slice (some ⟨bt,0,none⟩) ts.length ts.length),(3,Pt b3),(2,Pt b2)]∧∃vu en,cz 2 vu (Uses (fC ts k)) en∧St H w (.blk b3 [I (dot s.da ts (·.c)),vu]:: .blk b2 [I 0,.slice none 0 0]::en::σ)) ai ?_ ?_ ?_)))))))))
 ·exact .mk ⟨rfl,_,.nul,.nil 2 none,(hs.nul).sb⟩
 ·rintro k fr w hk ⟨rfl,vu,en,hO,hs⟩;have Wz:cellAt H bt k=some (I (gi ts k)):=hF.t.at k (kc hk);refine .block (.ae (.z zm ?_));first|(refine .ixv hs af ak ?_;intro GR o17 iy)|refine .z (zix af ak) ?_
  refine .q hs (aR rfl aj Wz) (.z zg (.zn zg (.ae (.z zm (.zn nJ (.cg rfl (fun tK=>?_) (fun tK=>?_)))))))
  ·refine .region (.z (zfa eu) (.y hs (zld zN) (.z zm (.z zm (.z (zbd [_,_] Fv) (.o (.buildSlice (cells:=[I k,I (gi ts k)]) hs xh rfl rfl fun TF w hs=>?_)))))));refine .o (.append (ys:=[I k,I (gi ts k)]) hs fP rfl rfl hO (.own .here rfl rfl) (by simp [Value.oneCell']) (fun l h=>by rw [Fz] at h;have:=oo ts k;omega) ?_);intro v27 en27 w eb hs;obtain ⟨a27,l27,c27,rfl,h27⟩:=eb.shape;refine .z (zfa eu) (.o (.store hs rfl rfl sizeOf120 fun w hs=>?_));refine .nil (nB (nT ?_));have e:Uses (fC ts k)++[I k,I (gi ts k)]=Uses (fC ts (k+1)):=by rw [fC,if_pos tK,FB];rfl
   rw [e] at eb;exact .mk ⟨rfl,_,_,eb,hs.sb⟩
  ·refine .skip (nB (nT ?_));have e:fC ts (k+1)=fC ts k:=by rw [fC,if_neg tK];simp
   exact .mk ⟨rfl,vu,en,by rw [e];exact hO,hs⟩
 ·rintro fr w ⟨rfl,vu,en,hO,hs⟩;obtain ⟨au,lu,cu,rfl,hlu⟩:=hO.shape;refine nT (.ae (.y hs (zls [_,_] fU ck) (.o (.aE (vs:=[_,_]) hs rfl rfl ck fun w hs=>?_))));refine .nil (.ret ?_);obtain ⟨H1,g1,g2,hs⟩:=cz.bZ (cs:=(fC ts ts.length).map Use.c) hO (fun c hc=>by simp only [List.mem_map] at hc;obtain ⟨x,_,rfl⟩:=hc;rfl) ai (by rw [List.length_map];have:=oo ts ts.length;omega) hs eJ;exact Fin.hZ [] [] hs fun w hs=>⟨_,results1 results251 (cN (vs:=[_,_]) hs rfl fU ck),H1,g1,⟨_,rfl,g2⟩,hs.out⟩
theorem qE{w:World}{s:cM}(hs:St H w σ)(aJ:s.Ok)(hF:xl H bf s ts lf vl bt bl cl sp)(AU:nq s.n s.da (pP ws s.n) ts)(nZ:bI ws s.n≤FF):
  Z4 180 [Pt bf] w fun v w'=>∃H1 xs,HLe H H1∧RI H1 v xs∧FH s ws xs∧St H1 w' σ:=by
 obtain ⟨N,hN⟩:=Int.eq_ofNat_of_zero_le aJ.m0;have UJ:=aJ.m1;have hn:s.n=N+1:=by simp [cM.n,hN]
 have eX:=AU.lt;have CC:s.da.length=s.cJ.length:=by simp [cM.da,dU]
 have J0:=aJ.len;have Ze:cellAt H bf 0=some (I (N:Int)):=by have:=hF.f.at 0 (v:=I s.many);rwa [hN] at this
 have oC:=Hk aJ.da eX.symm ai;rw [hn] at oC;refine Cl.o func180 ntmps180 ag1 ?_;refine .ae (.zn zg (.seq (.draw mix rfl hs fun w hs=>?_)));refine .zw 0 rfl zm ?_;refine .z 1 rfl znc ?_;refine .z 2 rfl (zfa fN) ?_;refine .z 3 rfl (zfa bU) ?_;refine .y 4 rfl hs aj ?_;refine .z 5 rfl zm ?_;refine .E 6 hs ?_;refine .call call226 rfl (l9 hs aJ hF ai) ?_;rintro _ w ⟨H1,Ch,aq,rfl,pF,hs⟩;refine .go (.E 7 hs ?_);refine .call call225 rfl (kv hs ai oC pF call274) ?_;rintro _ w ⟨H2,bc,bb,st,ov,vo,aQ,rfl,HG,⟨r,Xy,hr⟩,hs⟩;have V5:ov=none:=by
  cases ov with
  |none=>rfl
  |some x=>exact (Xy.none oC ai (by have:=hr bB;omega) AU.fe).elim
 subst V5;obtain ⟨Q4,zF⟩:=Xy.sol oC ai;have NZ:=Xy.lc;have Em:=zF 0 ai;refine .go (.zw 8 rfl zm ?_);refine .z 9 rfl zex ?_;refine .z 10 rfl zex ?_;refine .z 11 rfl zex ?_;refine .z 12 rfl zg ?_;refine .z 13 rfl zg ?_;refine .z 14 rfl zg ?_;refine .D hs ?_;refine .ae (.z zm (.q hs (kM (k:=0) rfl rfl af ak rfl ai) (.y hs (zld aj) (.zn zg (.seq (.ae (.z zm (.z (de af) (.zn zm (.for (N:=N+1) (J:=fun k fr w=>fr=[(3,.slice (some ⟨bc,0,none⟩) (N+1) (N+1)),(6,I (gi st.cost 0))]∧∃L,(L.length=N+1∧∀v<N+1,gi L v=if v<k then gi st.cost v - gi st.cost 0 else gi st.cost v)∧St H2 w (.blk bc (Is L)::σ)) ai ?_ ?_ ?_))))))))))
 ·exact .mk ⟨rfl,st.cost,⟨NZ,fun v hv=>by rw [if_neg ai]⟩,hs.sb⟩
 ·rintro k fr w hk ⟨rfl,L,⟨Oo,Ls⟩,hs⟩;have ZI:=Ls k hk;rw [if_neg ai] at ZI;have Lq:=zF k hk;refine .block (.ae (.z zm (.zn zg (.region (.z zm (.z zm ?_))))));first|(refine .ixv hs af ak ?_;intro TC o30 tJ)|refine .z (zix af ak) ?_
  refine .y hs (zld aj) (.z zm (.z iX ?_));first|(refine .ixv hs af ak ?_;intro Rh o34 lP)|refine .z (zix af ak) ?_
  refine .o (.store hs rfl rfl ak fun w hs=>?_);refine .nil (nB (nT (.mk ⟨rfl,_,⟨by rw [List.length_set];exact Oo,fun v hv=>?_⟩,hs⟩)));rw [ig ai];by_cases e:v=k
  ·subst e;rw [if_pos rfl,if_pos ai,ZI]
  ·rw [if_neg e,Ls v hv];congr 1;apply propext;omega
 ·rintro fr w ⟨rfl,L,⟨Oo,Ls⟩,hs⟩;refine nT (.ae (.z zm (.zn zg (.ret (Fin.bw results180 rfl ?_)))));obtain ⟨H3,g1,g2,hs⟩:=hs.bZ .here;have hg:∀v<N+1,gi L v=gi st.cost v - gi st.cost 0:=fun v hv=>by rw [Ls v hv,if_pos hv]
  obtain ⟨p1,p2⟩:=AU.Vh ai aJ.da Q4;refine ⟨H3,L,aq.trans (aQ.trans g1),?_,⟨ai,by rw [hg 0 ai];omega,fun v hv=>?_,fun x hx=>?_,?_⟩,hs⟩
  ·have:=Row.RI (spare:=[]) (by simpa using g2) (N+1) ai ai
   rwa [Oo] at this
  ·have:=zF v ai;rw [hg v ai];omega
  ·have h1:=aJ.da.2 x hx;have h2:=p2 x hx;rw [hg _ ai,hg _ ai];omega
  ·have h1:=AU.value ai ai aJ.da nZ;rw [←p1] at h1;have e:aM (fun v=>gi ws v*gi L v) s.n=aM (fun v=>gi ws v*(gi st.cost v - gi st.cost 0)) s.n:=bp fun v hv=>by rw [hg v ai]
   rw [e];exact h1.1
theorem zh{w:World}{v:Value}{s:cM}(hs:St H w σ)(hr:RSy H v s)(wk:RI H vw ws):
  Z4 126 [v,vw] w fun v w'=>∃H1 vx xs e,HLe H H1∧v= .tuple #[vx,I e]∧Io s ws e∧RI H1 vx xs∧(e≠0→xs=[])∧(e=0→FH s ws xs)∧St H1 w' σ:=by
 obtain ⟨vl,rfl,hr⟩:=hr;refine Cl.o func126 ntmps126 ag2 ?_;refine .ae (.bx hs fun b2 w hs=>?_);refine .z zg (.zn zg (.ae (.y hs (zls [_,_] cf bg) (.z zm (.o (.call call179 rfl (jM (s:=s) hs ⟨_,rfl,hr⟩ wk) ?_))))));rintro _ w ⟨H1,e,pf,aq,rfl,hA,hs,gL,heq⟩;refine .z zm (.z zex (.z zex (.z zg (.zn zg (.seq (.ae (.z zm (.zn ez (.dz rfl (fun gM=>?_) (fun gM=>?_))))))))))
 ·exact .ae (.z zm (.z zg (.zn zg (.ret (rT (Fin.jr results126 rfl rfl ⟨H1,_,[],_,aq,rfl,hA,RS.nil H1 1 none 0,fun _=>rfl,fun h=>(gM h).elim,hs.tail⟩))))))
 ·refine .skip (nT (.ae (.z zm ?_)));subst gM;obtain ⟨bf,bt,bl,cl,ts,lf,vl,sp,rfl,hF,AU,aJ,nZ⟩:=heq rfl;refine .o (.call call180 rfl (qE hs aJ hF AU nZ) ?_);rintro v18 w ⟨H2,xs,aQ,hx,hB,hs⟩;exact .z zg (.zn zg (.ret (Fin.jr results126 rfl rfl ⟨H2,_,xs,_,aq.trans aQ,rfl,hA,hx,fun h=>(h rfl).elim,fun _=>hB,hs.tail⟩)))
theorem xe{w:World}{v:Value}{s:cM}(hs:St H w σ)(hr:RSy H v s)(wk:RI H vw ws):
  Z4 200 [v,vw] w fun v w'=>∃H1 vp n us e,HLe H H1∧v= .tuple #[vp,I e]∧pM s ws n e∧RPf H1 vp n us∧(e≠0→us=[])∧(e=0→s.Ok∧bI ws s.n≤FF∧∃ts,nq s.n s.da (pP ws s.n) ts∧n=dot s.da ts (·.c)∧us=fC ts ts.length)∧St H1 w' σ:=by
 obtain ⟨vl,rfl,hr⟩:=hr;refine Cl.o func200 ntmps200 ag2 ?_;refine .ae (.bx hs fun b2 w hs=>?_);refine .o (.alloc hs iZ rfl fun b4 w hs=>?_);refine .zn zg (.ae (.y hs (zls [_,_] cf bg) (.z zm (.o (.call call179 rfl (jM (s:=s) hs ⟨_,rfl,hr⟩ wk) ?_)))));rintro _ w ⟨H1,e,pf,aq,rfl,hA,hs,gL,heq⟩;refine .z zm (.z zex (.z zex (.z zg (.zn zg (.seq (.ae (.z zm (.zn ez (.dz rfl (fun gM=>?_) (fun gM=>?_))))))))))
 ·refine .ae (.z (zbd [_,_] iB) (.z zm (.o (.aE (vs:=[_,_]) hs rfl rfl ck fun w hs=>?_))));exact .zn zg (.ret (rT ((Fin.hZ [] [] hs fun w hs=>⟨_,results2 results200 (cN (vs:=[_,_]) hs rfl fU ck) rfl,H1,_,0,[],_,aq,rfl,⟨hA,fun _=>rfl,fun h=>(gM h).elim⟩,⟨_,rfl,RS.nil H1 2 none 0⟩,fun _=>rfl,fun h=>(gM h).elim,hs.out⟩))))
 ·refine .skip (nT (.ae (.z zm ?_)));subst gM;obtain ⟨bf,bt,bl,cl,ts,lf,vl,sp,rfl,hF,AU,aJ,nZ⟩:=heq rfl;refine .o (.call call251 rfl (qD hs aJ hF AU nZ) ?_);rintro _ w ⟨H2,aQ,⟨vu,rfl,hU⟩,hs⟩;obtain ⟨au,cu,rfl⟩:=RU.shape hU;obtain ⟨q1,q2,q3,q4⟩:=AU.value (by simp [cM.n]) (by have:=aJ.m0;have:=aJ.m1;simp only [cM.n];omega) aJ.da nZ;refine .o (.aE (vs:=[_,_]) hs rfl rfl ck fun w hs=>?_);exact .zn zg (.ret (Fin.hZ [] [] hs fun w hs=>⟨_,results2 results200 (cN (vs:=[_,_]) hs rfl fU ck) rfl,H2,_,_,_,_,aq.trans aQ,rfl,⟨hA,fun h=>(h rfl).elim,fun _=>⟨q1,q3,q4⟩⟩,⟨_,rfl,hU⟩,fun h=>(h rfl).elim,fun _=>⟨aJ,nZ,ts,AU,rfl,rfl⟩,hs.out⟩))
theorem LY{n m:Int}(hm:0<m):(n.tmod m+m).tmod m=n%m:=by
 have h2:=Int.lt_tmod_of_pos n hm;rw [Int.tmod_eq_emod_of_nonneg ai,Int.tmod_def,show n - m*n.tdiv m+m=n+m*(1 - n.tdiv m) by rw [Int.mul_sub];omega,Int.add_mul_emod_self_left]
theorem yp{w:World}{v:Value}{l:List Int}{i n:Int}(hs:St H w σ)(hr:RI H v l)(hi:0≤i)(hn:n≤4611686018427387904):Z4 209 [v,I i,I n] w fun v w'=>v=I (th l i n)∧St H w' σ:=by
 obtain ⟨a,c,rfl⟩:=RI.shape hr;have hlen:=(RI.len hr).2.2;refine Cl.o func209 ntmps209 ag3 ?_;refine .ae (.zn zg (.seq (.ae (.z zm (.z (de af) (.z ik (.z zm (.iY (t':=10) rfl (fun sH=>?_) (fun sH=>?_)))))))))
 ·exact .Fs 2 3 false (.zn zpT (.cT (.ae (.zn zg (.ret (rT (Fin.bw results209 rfl ⟨by rw [show th l i n=0 by unfold th;rw [if_pos (.inl (List.length_eq_zero_iff.1 ai))]],hs⟩)))))))
 ·refine .T (.z zm (.T (.z ju (.zn zpF (.cg rfl (fun iz=>?_) (fun iz=>?_))))))
  ·exact .ae (.zn zg (.ret (rT (Fin.bw results209 rfl ⟨by rw [show th l i n=0 by unfold th;rw [if_pos (.inr ai)]],hs⟩))))
  ·refine .skip (nT (.ae (.z zm (.z zm (.z zm (.z (de af) ?_))))));have Wj:0<l.length:=by omega
   have h1:=Int.tmod_nonneg (a:=i) (l.length:Int) hi;have h2:=Int.tmod_lt_of_pos i (b:=(l.length:Int)) ai;have hx:=bL (l:=l) (i:=(i.tmod (l.length:Int)).toNat) ai;have h3:=Int.tmod_lt_of_pos (gi l (i.tmod (l.length:Int)).toNat) (b:=n) ai;have h4:=Int.lt_tmod_of_pos (gi l (i.tmod (l.length:Int)).toNat) (b:=n) ai;have e:=LY (n:=gi l (i.tmod (l.length:Int)).toNat) (m:=n) ai;refine .z FP (.ixY hs hr rfl rfl af ak hx ai ?_);intro Ak o19 oG;exact .q hs (aR rfl aj oG) (.z zm (.z FP (.z zm (.z cD (.z zm (.z FP (.zn zg (.ret (Fin.bw results209 rfl ⟨by unfold th;rw [if_neg (fun h=>h.elim (fun h=>by rw [h] at Wj;exact Nat.lt_irrefl _ Wj) (fun h=>by omega)),←e],hs⟩)))))))))
def Bb(i j:Nat):Int:=if i=j then 0 else free
theorem OL{n:Nat}(es:List Arc){T:Nat→Nat→Int}(h:∀i j,i<n→j<n→T i j=Bb i j):Qz n es 0 T:=
 ⟨fun i hi=>by rw [h i i hi hi];simp [Bb],fun _ _ h=>by omega,fun i j hi hj ID=> .inl (by rw [h i j hi hj];simp [Bb,ID])⟩
set_option maxHeartbeats 4000000 in
theorem yn{w:World}{v:Value}{s:cM}(hs:St H w σ)(hr:RSy H v s)(aJ:s.Ok):
  Z4 207 [v] w fun u w'=>∃H1 rs,HLe H H1∧RT H1 u rs∧Sq s.n rs∧mY s.n s.da (gt rs)∧St H1 w' σ:=by
 obtain ⟨ul,rfl,hl⟩:=hr;obtain ⟨al,cl,rfl⟩:=RL.shape hl;have E3:=aJ.m0;have IA:=aJ.m1;have hlen:=aJ.len;have YV:=s.BD;have Dm:=aJ.n65;have MN:=aJ.inn;have QZ:s.many+1=(s.n:Int):=by simp only [cM.n];omega
 generalize hn:s.n=n at YV Dm MN QZ ⊢;refine Cl.o func207 ntmps207 ag1 ?_;refine .ae (.bx hs fun b1 w hs=>?_);refine .zn zg (.ae (.z (zfa bU) ?_));first|refine .q hs (ja rfl aj (hm:=by repeat (first|exact .here|assumption|exact Mem.row ai ai|refine .there ?_|refine Mem.zo ?_)) (hv:=by first|rfl|exact gC ai|exact nG eE ai ai|exact kc nC)) ?_|refine .q hs (aR rfl aj eE) ?_
 refine .z cD ?_;rw [QZ];refine .zn zg (.ae (.z zm (.o (.RV n hs rfl rfl aF typeInfo34 rfl aO gX ai fun ui w hs=>?_))));refine .zn zg (.seq (.ae (.z zm (.z (de aF) (.zn zm (.for (N:=n) (J:=fun k fr w=>fr=[(3,I (n:Int)),(4,.slice (some ⟨ui,0,none⟩) n n),(1,Pt b1)]∧∃bs:List Nat,bs.length=k∧St H w (.blk ui (bs.map (ptr n)++List.replicate (n - k) (.slice none 0 0))::(ny bs (Iu Bb n k)++(.blk b1 [I s.many,.slice al s.cJ.length cl]::σ)))) ai ?_ ?_ ?_))))))
 ·exact .mk ⟨rfl,[],rfl,hs⟩
 ·rintro k fr w hk ⟨rfl,bs,Ki,hs⟩;refine .block (.ae (.z zm (.zn zg (.ae (.z zm (.z zm (.z zm (.o (.BJ n hs rfl rfl af pN rfl ak dw ai fun D0 w hs=>?_)))))))));first|(refine .ixw hs aF aO ?_;intro TF o26 jy)|refine .z (zix aF aO) ?_
  refine .o (.store hs rfl rfl aO ?_ eJ (by simp [Ki];omega) (Pc Ki hk));intro w hs;refine .nil (.ae (.z zm (.z zm ?_)));first|(refine .ixw hs aF aO ?_;intro XV o29 oF)|refine .z (zix aF aO) ?_
  refine .q hs (ja rfl an (hv:=F6 Ki)) (.z (de af) (.zn zm (.for (N:=n) (J:=fun j fr w=>fr=[(5,I (k:Int)),(19,I (k:Int)),(18,I (n:Int)),(3,I (n:Int)),(4,.slice (some ⟨ui,0,none⟩) n n),(1,Pt b1)]∧St H w (.blk D0 (Is ((List.range n).map fun c=>if c<j∧k≠c then free else 0)):: .blk ui ((bs++[D0]).map (ptr n)++List.replicate (n - (k+1)) (.slice none 0 0))::(ny bs (Iu Bb n k)++(.blk b1 [I s.many,.slice al s.cJ.length cl]::σ)))) ai ?_ ?_ ?_)))
  ·rw [EG (fun c=>if c<0∧k≠c then free else 0) n 0 (fun j _=>by simp)] at hs;exact .mk ⟨rfl,hs⟩
  ·rintro j fr w hj ⟨rfl,hs⟩;refine .block (.ae (.z zm (.zn zg (.ae (.z zm (.z zm (.zn ez (.dz rfl (fun yT=>?_) (fun yT=>?_)))))))))
   ·refine .region (.z zm (.z zm ?_));first|(refine .ixw hs aF aO ?_;intro UR o40 yS)|refine .z (zix aF aO) ?_
    refine .q hs (ja rfl an (hv:=F6 Ki)) (.z zm ?_);first|(refine .ixv hs af ak ?_;intro Z1 o43 MU)|refine .z (zix af ak) ?_
    refine .o (.store hs rfl rfl ak ?_ eJ (GO (by simp;omega)) (D9 _ _ _));intro w hs;refine .nil (nB (nT ?_));rw [I9 _ (fun c=>if c<j+1∧k≠c then free else 0) hj 1000000000 (fun c _=>by
     by_cases e:c=j
     ·subst e;rw [if_pos rfl,if_pos ⟨ai,ai⟩]
     ·rw [if_neg e];congr 1;apply propext;omega)] at hs
    exact .mk ⟨rfl,hs⟩
   ·refine .skip (nB (nT ?_));rw [yr (g:=fun c=>if c<j+1∧k≠c then free else 0) (fun c _=>by
     by_cases e:c=j
     ·subst e;rw [if_neg ai,if_neg ai]
     ·congr 1;apply propext;omega)] at hs
    exact .mk ⟨rfl,hs⟩
  ·rintro fr w ⟨rfl,hs⟩;rw [yr (g:=Bb k) (fun c hc=>by
    unfold Bb;by_cases e:k=c
    ·rw [if_neg ai,if_pos e]
    ·rw [if_pos ⟨hc,e⟩,if_neg e])] at hs
   replace hs:=hs.U7 (by rw [Ki,Ez]);rw [←IU] at hs;exact nB (nT (.mk ⟨rfl,bs++[D0],by simp [Ki],hs⟩))
 ·rintro fr w ⟨rfl,bs,Ki,hs⟩;rw [Nat.sub_self,List.replicate_zero,List.append_nil] at hs;refine nT (.seq (.ae (.z (zfa bM) ?_)));first|refine .q hs (ja rfl eL (hm:=by repeat (first|exact .here|assumption|exact Mem.row ai ai|refine .there ?_|refine Mem.zo ?_)) (hv:=by first|rfl|exact gC ai|exact nG eE ai ai|exact kc nC)) ?_|refine .q hs (aR rfl eL eE) ?_
  refine .z (de aU) (.zn zm (.for (N:=s.cJ.length) (J:=fun k fr w=>fr=[(47,.slice al s.cJ.length cl),(4,.slice (some ⟨ui,0,none⟩) n n)]∧∃rs,Sq n rs∧Qz n s.da k (gt rs)∧St H w (.blk ui (bs.map (ptr n))::(ny bs rs++(.blk b1 [I s.many,.slice al s.cJ.length cl]::σ)))) ai ?_ ?_ ?_))
  ·exact .mk ⟨rfl,_,OV Bb n,OL s.da (fun i j hi hj=>OW Bb hi hj),hs⟩
  ·rintro k fr w hk ⟨rfl,rs,hq,hB,hs⟩;obtain ⟨x,hx⟩:=nth (l:=s.cJ) hk;have Cx:=hq.1;obtain ⟨⟨xa0,xa1⟩,⟨xb0,xb1⟩,xne,xM,-⟩:=aJ.lim x (List.mem_of_getElem? hx);have ha:x.A.toNat<n:=by omega
   have hb:x.B.toNat<n:=by omega
   have hga:=kQ hx;refine .block (.ae (.ixX (enc:=Lim.c) hs hl rfl rfl aU bO hx rfl ?_));intro b51 o51 PX;refine .q hs (bH (vs:=x.c) rfl kE bO PX) (.o (.alloc hs fQ rfl fun b8 w hs=>?_));refine .o (.aE (vs:=x.c) hs rfl rfl bO fun w hs=>?_);refine .nil (.draw mix rfl hs fun w hs=>?_);refine .zw 0 rfl zm ?_;refine .z 1 rfl (zfa dR) ?_;first|refine .load (i:=2) hs rfl az .none rfl aj ?_ (by repeat (first|exact .here|assumption|exact Mem.row ai ai|refine .there ?_|refine Mem.zo ?_)) (by first|rfl|exact gC ai|exact nG eE ai ai|exact kc nC)|refine .r (i:=2) hs rfl az .none (aR rfl aj eE) ?_
   refine .zw 3 rfl (kM (k:=x.A.toNat) rfl rfl aF aO ai ha) ?_;first|refine .load (i:=4) hs rfl az .none rfl an ?_ (by repeat (first|exact .here|assumption|exact Mem.row ai ai|refine .there ?_|refine Mem.zo ?_)) (by first|rfl|exact gC ai|exact nG eE ai ai|exact kc nC)|refine .r (i:=4) hs rfl az .none (aR rfl an eE) ?_
   refine .zw 5 rfl (zfa ew) ?_;first|refine .load (i:=6) hs rfl az .none rfl aj ?_ (by repeat (first|exact .here|assumption|exact Mem.row ai ai|refine .there ?_|refine Mem.zo ?_)) (by first|rfl|exact gC ai|exact nG eE ai ai|exact kc nC)|refine .r (i:=6) hs rfl az .none (aR rfl aj eE) ?_
   refine .zw 7 rfl zm ?_;refine .z 8 rfl (zfa dR) ?_;first|refine .load (i:=9) hs rfl az .none rfl aj ?_ (by repeat (first|exact .here|assumption|exact Mem.row ai ai|refine .there ?_|refine Mem.zo ?_)) (by first|rfl|exact gC ai|exact nG eE ai ai|exact kc nC)|refine .r (i:=9) hs rfl az .none (aR rfl aj eE) ?_
   refine .zw 10 rfl (kM (k:=x.A.toNat) rfl rfl aF aO ai ha) ?_;first|refine .load (i:=11) hs rfl az .none rfl an ?_ (by repeat (first|exact .here|assumption|exact Mem.row ai ai|refine .there ?_|refine Mem.zo ?_)) (by first|rfl|exact gC ai|exact nG eE ai ai|exact kc nC)|refine .r (i:=11) hs rfl az .none (aR rfl an eE) ?_
   refine .zw 12 rfl (zfa ew) ?_;first|refine .load (i:=13) hs rfl az .none rfl aj ?_ (by repeat (first|exact .here|assumption|exact Mem.row ai ai|refine .there ?_|refine Mem.zo ?_)) (by first|rfl|exact gC ai|exact nG eE ai ai|exact kc nC)|refine .r (i:=13) hs rfl az .none (aR rfl aj eE) ?_
   refine .zw 14 rfl (kM (k:=x.B.toNat) rfl rfl af ak ai hb) ?_;first|refine .load (i:=15) hs rfl az .none rfl aj ?_ (by repeat (first|exact .here|assumption|exact Mem.row ai ai|refine .there ?_|refine Mem.zo ?_)) (by first|rfl|exact gC ai|exact nG eE ai ai|exact kc nC)|refine .r (i:=15) hs rfl az .none (aR rfl aj eE) ?_
   refine .zw 16 rfl (zfa fE) ?_;first|refine .load (i:=17) hs rfl az .none rfl aj ?_ (by repeat (first|exact .here|assumption|exact Mem.row ai ai|refine .there ?_|refine Mem.zo ?_)) (by first|rfl|exact gC ai|exact nG eE ai ai|exact kc nC)|refine .r (i:=17) hs rfl az .none (aR rfl aj eE) ?_
   refine .zw 18 rfl G5 (.zw 19 rfl (kM (k:=x.B.toNat) rfl rfl af ak ai hb) (.ET 20 hs ?_));refine .store hs rfl rfl ak ?_ (.there (.there (Upd.row _ ai ai))) (GO (by rw [hq.2 _ ha];exact hb)) (D9 _ _ _);intro w hs;exact .go (.DT hs (nB (nT (.mk ⟨rfl,_,hq.set ha _,by rw [Ou hq ha hb];exact hB.step MN hga,hs.tail⟩))))
  ·rintro fr w ⟨rfl,rs,hq,hB,hs⟩;rw [←dU] at hB;have hI:=hB.go MN YV;have MQ:∀x∈s.da,-20000≤x.c∧x.c≤20000:=fun x hx=>by have:=MN x hx;omega
   refine nT (.seq (.ae (.z zm (.z (de aF) (.zn zm (.for (N:=n) (J:=fun m fr w=>fr=[(4,.slice (some ⟨ui,0,none⟩) n n)]∧∃rs,Sq n rs∧(m<n→CE n s.da m (fun _ _=>False) (gt rs))∧(m=n→mY n s.da (gt rs))∧St H w (.blk ui (bs.map (ptr n))::(ny bs rs++(.blk b1 [I s.many,.slice al s.cJ.length cl]::σ)))) ai ?_ ?_ ?_))))))
   ·exact .mk ⟨rfl,rs,hq,fun _=>hI,fun e=>by omega,hs⟩
   ·clear hI hB hq;rintro m fr w hm ⟨rfl,rs,hq,hI,-,hs⟩;replace hI:=hI hm;refine .block (.ae (.z zm (.zn zg (.ae (.z zm (.z (de aF) (.zn zm (.for (N:=n) (J:=fun i fr w=>fr=[(9,I (m:Int)),(76,I (m:Int)),(75,I (n:Int)),(4,.slice (some ⟨ui,0,none⟩) n n)]∧∃rs,Sq n rs∧CE n s.da m (fun a _=>a<i) (gt rs)∧St H w (.blk ui (bs.map (ptr n))::(ny bs rs++(.blk b1 [I s.many,.slice al s.cJ.length cl]::σ)))) ai ?_ ?_ ?_))))))))
    ·exact .mk ⟨rfl,rs,hq,hI.skip MQ hm (P:=fun _ _=>False) (fun i j h=>by omega) (fun _ _ _ _ h=>h.elim),hs⟩
    ·clear hI hq;rintro i fr w hi ⟨rfl,rs,hq,hI,hs⟩;refine .block (.ae (.z zm (.zn zg (.ae (.z zm (.z (de aF) (.zn zm (.for (N:=n) (J:=fun k fr w=>fr=[(10,I (i:Int)),(81,I (i:Int)),(80,I (n:Int)),(9,I (m:Int)),(76,I (m:Int)),(75,I (n:Int)),(4,.slice (some ⟨ui,0,none⟩) n n)]∧∃rs,Sq n rs∧CE n s.da m (fun a b=>a<i∨(a=i∧b<k)) (gt rs)∧St H w (.blk ui (bs.map (ptr n))::(ny bs rs++(.blk b1 [I s.many,.slice al s.cJ.length cl]::σ)))) ai ?_ ?_ ?_))))))))
     ·exact .mk ⟨rfl,rs,hq,hI.skip MQ hm (P:=fun _ _=>False) (fun a b h=>by omega) (fun _ _ _ _ h=>h.elim),hs⟩
     ·clear hI hq;rintro k fr w hk ⟨rfl,rs,hq,hI,hs⟩;have Cx:=hq.1;have c1:=hI.cl i m hi hm;have c2:=hI.cl m k hm hk;have u1:=hI.up i m hi hm;have u2:=hI.up m k hm hk;refine .block (.ae (.z zm (.zn zg (.ae (.z zm (.z zm ?_))))));first|(refine .ixw hs aF aO ?_;intro b91 o91 SC)|refine .z (zix aF aO) ?_
      first|refine .q hs (ja rfl an (hm:=by repeat (first|exact .here|assumption|exact Mem.row ai ai|refine .there ?_|refine Mem.zo ?_)) (hv:=by first|rfl|exact gC ai|exact nG eE ai ai|exact kc nC)) ?_|refine .q hs (aR rfl an eE) ?_
      refine .z zm ?_;first|(refine .ixv hs af ak ?_;intro b94 o94 SB)|refine .z (zix af ak) ?_
      first|refine .q hs (ja rfl aj (hm:=by repeat (first|exact .here|assumption|exact Mem.row ai ai|refine .there ?_|refine Mem.zo ?_)) (hv:=by first|rfl|exact gC ai|exact nG eE ai ai|exact kc nC)) ?_|refine .q hs (aR rfl aj eE) ?_
      refine .z ez (.z zm (.Eo (t':=97) rfl (fun tL=>?_) (fun tL=>?_)))
      ·refine .T (.z zm (.T (.z zm (.T ?_))));first|(refine .ixw hs aF aO ?_;intro TI o100 wz)|refine .z (zix aF aO) ?_
       refine .T ?_;first|refine .q hs (ja rfl an (hm:=by repeat (first|exact .here|assumption|exact Mem.row ai ai|refine .there ?_|refine Mem.zo ?_)) (hv:=by first|rfl|exact gC ai|exact nG eE ai ai|exact kc nC)) ?_|refine .q hs (aR rfl an eE) ?_
       refine .T (.z zm (.T ?_));first|(refine .ixv hs af ak ?_;intro b103 o103 Zr)|refine .z (zix af ak) ?_
       refine .T ?_;first|refine .q hs (ja rfl aj (hm:=by repeat (first|exact .here|assumption|exact Mem.row ai ai|refine .there ?_|refine Mem.zo ?_)) (hv:=by first|rfl|exact gC ai|exact nG eE ai ai|exact kc nC)) ?_|refine .q hs (aR rfl aj eE) ?_
       refine .T (.z ez (.zn zpT (.dz rfl (fun Dy=>?_) (fun Dy=>?_))))
       ·refine .draw mix rfl hs fun w hs=>?_
        replace u1:=u1 tL;replace u2:=u2 Dy;refine .zw 0 rfl zm ?_;refine .z 1 rfl zm ?_;first|(refine .ixw 2 rfl hs aF aO ?_;intro b109 o109 Oc)|refine .z 2 rfl (zix aF aO) ?_
        first|refine .load (i:=3) hs rfl az .none rfl an ?_ (by repeat (first|exact .here|assumption|exact Mem.row ai ai|refine .there ?_|refine Mem.zo ?_)) (by first|rfl|exact gC ai|exact nG eE ai ai|exact kc nC)|refine .r (i:=3) hs rfl az .none (aR rfl an eE) ?_
        refine .zw 4 rfl zm ?_;refine .z 5 rfl zm ?_;refine .z 6 rfl zm ?_;first|(refine .ixw 7 rfl hs aF aO ?_;intro b114 o114 Zp)|refine .z 7 rfl (zix aF aO) ?_
        first|refine .load (i:=8) hs rfl az .none rfl an ?_ (by repeat (first|exact .here|assumption|exact Mem.row ai ai|refine .there ?_|refine Mem.zo ?_)) (by first|rfl|exact gC ai|exact nG eE ai ai|exact kc nC)|refine .r (i:=8) hs rfl az .none (aR rfl an eE) ?_
        refine .zw 9 rfl zm ?_;first|(refine .ixv 10 rfl hs af ak ?_;intro b117 o117 Oa)|refine .z 10 rfl (zix af ak) ?_
        first|refine .load (i:=11) hs rfl az .none rfl aj ?_ (by repeat (first|exact .here|assumption|exact Mem.row ai ai|refine .there ?_|refine Mem.zo ?_)) (by first|rfl|exact gC ai|exact nG eE ai ai|exact kc nC)|refine .r (i:=11) hs rfl az .none (aR rfl aj eE) ?_
        refine .zw 12 rfl zm ?_;refine .z 13 rfl zm ?_;first|(refine .ixw 14 rfl hs aF aO ?_;intro b121 o121 Zn)|refine .z 14 rfl (zix aF aO) ?_
        first|refine .load (i:=15) hs rfl az .none rfl an ?_ (by repeat (first|exact .here|assumption|exact Mem.row ai ai|refine .there ?_|refine Mem.zo ?_)) (by first|rfl|exact gC ai|exact nG eE ai ai|exact kc nC)|refine .r (i:=15) hs rfl az .none (aR rfl an eE) ?_
        refine .zw 16 rfl zm ?_;first|(refine .ixv 17 rfl hs af ak ?_;intro b124 o124 Zl)|refine .z 17 rfl (zix af ak) ?_
        first|refine .load (i:=18) hs rfl az .none rfl aj ?_ (by repeat (first|exact .here|assumption|exact Mem.row ai ai|refine .there ?_|refine Mem.zo ?_)) (by first|rfl|exact gC ai|exact nG eE ai ai|exact kc nC)|refine .r (i:=18) hs rfl az .none (aR rfl aj eE) ?_
        refine .zw 19 rfl zm ?_;refine .z 20 rfl zm ?_;first|(refine .ixw 21 rfl hs aF aO ?_;intro X5 o128 SX)|refine .z 21 rfl (zix aF aO) ?_
        first|refine .load (i:=22) hs rfl az .none rfl an ?_ (by repeat (first|exact .here|assumption|exact Mem.row ai ai|refine .there ?_|refine Mem.zo ?_)) (by first|rfl|exact gC ai|exact nG eE ai ai|exact kc nC)|refine .r (i:=22) hs rfl az .none (aR rfl an eE) ?_
        refine .zw 23 rfl zm ?_;first|(refine .ixv 24 rfl hs af ak ?_;intro b131 o131 Zk)|refine .z 24 rfl (zix af ak) ?_
        first|refine .load (i:=25) hs rfl az .none rfl aj ?_ (by repeat (first|exact .here|assumption|exact Mem.row ai ai|refine .there ?_|refine Mem.zo ?_)) (by first|rfl|exact gC ai|exact nG eE ai ai|exact kc nC)|refine .r (i:=25) hs rfl az .none (aR rfl aj eE) ?_
        refine .zw 26 rfl cD ?_;refine .z 27 rfl G5 ?_;refine .z 28 rfl IJ ?_;first|(refine .ixv 29 rfl hs af ak ?_;intro X3 o136 Zj)|refine .z 29 rfl (zix af ak) ?_
        refine .ET 30 hs ?_;refine .store hs rfl rfl ak ?_ (.there (Upd.row _ ai ai)) (GO (by rw [hq.2 _ hi];exact hk)) (D9 _ _ _);intro w hs;exact .go (.DT hs (nB (nT (.mk ⟨rfl,_,hq.set hi _,by rw [Ou hq hi hk];exact hI.step MQ hm hi hk (fun a b h=>by omega) tL Dy,hs⟩))))
       ·exact .skip (nB (nT (.mk ⟨rfl,rs,hq,hI.skip MQ hm (P:=fun a b=>a=i∧b=k) (fun a b h=>by omega) (fun a b _ _ h=>by obtain ⟨rfl,rfl⟩:=h;exact .inr Dy),hs⟩)))
      ·exact .Fs 8 8 true (.zn zpF (.cF (.skip (nB (nT (.mk ⟨rfl,rs,hq,hI.skip MQ hm (P:=fun a b=>a=i∧b=k) (fun a b h=>by omega) (fun a b _ _ h=>by obtain ⟨rfl,rfl⟩:=h;exact .inl tL),hs⟩))))))
     ·rintro fr w ⟨rfl,rs,hq,hI,hs⟩;exact nB (nT (.mk ⟨rfl,rs,hq,hI.skip MQ hm (P:=fun a b=>a=i∧n≤b) (fun a b h=>by omega) (fun a b _ hb h=>by omega),hs⟩))
    ·rintro fr w ⟨rfl,rs,hq,hI,hs⟩;replace hI:CE n s.da m (fun _ _=>True) (gt rs):=hI.skip MQ hm (P:=fun a _=>n≤a) (fun a b h=>by omega) (fun a b ha _ h=>by omega);exact nB (nT (.mk ⟨rfl,rs,hq,fun h=>hI.next MQ h Dm,fun h=>hI.done MQ h.symm Dm,hs⟩))
   ·rintro fr w ⟨rfl,rs,hq,-,hT,hs⟩;replace hT:=hT rfl;refine nT (.ae (.z zm (.zn zg (.ret (Fin.bw results207 rfl ?_)))));obtain ⟨H1,g1,g2,hs⟩:=Bl hq Ki ai hs;exact ⟨H1,rs,g1,g2,hq,hT,hs.tail⟩
theorem wU{w:World}{vm:Value}{rs:List (List Int)}{n:Nat}(hs:St H w σ)(hM:RT H vm rs)(hq:Sq n rs)(hn:n≤1000):
  Z4 208 [vm] w fun v w'=>∃b,v= .bool b∧(b=true↔∀i,i<n→¬gt rs i i<0)∧St H w' σ:=by
 obtain ⟨a,c,rfl⟩:=hM.shape;have Cx:=hq.1;refine Cl.o func208 ntmps208 ag1 ?_;refine .ae (.zn zg (.seq (.ae (.z zm (.z (de aF) (.zn zm (.for (N:=rs.length) (J:=fun k fr w=>fr=[(0,.slice a rs.length c)]∧(∀i,i<k→¬gt rs i i<0)∧St H w σ) ai ?_ ?_ ?_)))))))
 ·exact .mk ⟨rfl,fun i h=>by omega,hs⟩
 ·rintro k fr w hk ⟨rfl,h0,hs⟩;refine .block (.ae (.z zm (.zn zg (.ae (.z zm (.z zm (.ixT hs hM rfl rfl aF aO hk rfl ?_)))))));intro sO o11 a11 c11 mX Xw;refine .q hs (aR rfl an mX) (.z zm (.ixY hs Xw rfl rfl af ak (bL (l:=gr rs k) (i:=k) (by rw [hq.2 k ai];omega)) rfl ?_));intro ka o14 js;refine .q hs (aR rfl aj js) (.zn ju (.cg rfl (fun dN=>?_) (fun dN=>?_)))
  ·exact .ae (.zn zg (.ret (rB (rT (rB (rT (Fin.bw results208 rfl ⟨false,rfl,⟨fun h=>(by cases h),fun h=>(h k ai dN).elim⟩,hs⟩)))))))
  ·refine .skip (nB (nT ?_));exact .mk ⟨rfl,fun i hi=>by
    by_cases e:i=k
    ·subst e;exact dN
    ·exact h0 i ai,hs⟩
 ·rintro fr w ⟨rfl,h0,hs⟩;exact nT (.ae (.zn zg (.ret (Fin.bw results208 rfl ⟨true,rfl,⟨fun _ i hi=>h0 i ai,fun _=>rfl⟩,hs⟩))))
theorem dX{p:Prop}[Decidable p]:(!decide p)=true↔¬p:=by simp
theorem cE{p:Prop}[Decidable p]:(!decide p)=false↔p:=by simp
theorem fG{w:World}(hs:St H w σ):Z4 253 [I a0,I a1,I a2] w fun v w'=>v= .bool (decide (a1≤a0∧a0≤a2))∧St H w' σ:=by
 refine Cl.o func253 ntmps253 ag3 ?_;refine .ae (.zn zg (.ae (.z zm (.z zm (.z sY (.z zm (.iY (t':=10) rfl (fun sH=>?_) (fun sH=>?_))))))))
 ·exact .T (.z zm (.T (.z zm (.T (.z sY (.z zpT (.zn zg (.ret (Fin.bw results253 rfl ⟨by simp [*],hs.out⟩)))))))))
 ·exact .Fs 3 3 true (.z zpF (.zn zg (.ret (Fin.bw results253 rfl ⟨by simp [*],hs.out⟩))))
theorem p9{w:World}{many:Int}{l:Lim}(hs:St H w σ):Z4 256 [I many,.agg l.c.toArray] w fun v w'=>v=I (if decide (0≤many∧many≤64)&&l.ok many then 0 else 20)∧St H w' σ:=by
 refine Cl.o func256 ntmps256 ag2 ?_;refine .ae (.bx hs fun b3 w hs=>?_);refine .zn zg (.seq (.ae (.z zm (.o (.call call253 rfl (fG hs) ?_)))));rintro _ w ⟨rfl,hs⟩;refine .z ia (.z zm (.bif (t':=8) rfl (fun Od=>?_) (fun Od=>?_)))
 ·refine .Fs 5 3 false (.z zpT (.z zm (.Fs 5 10 false (.z zpT (.z zm (.Fs 5 17 false (.z zpT (.z zm (.Fs 4 24 false (.z zpT (.z zm (.Fs 4 30 false (.zn zpT (.cT (.ae (.zn zg (.ret (rT (Fin.bw CK rfl ?_)))))))))))))))))))
  (try simp only [dX] at*)
  (try simp only [cE] at*)
  refine ⟨congrArg I ?_,hs.out⟩;unfold Lim.ok;first
   |(rw [if_pos (by simp only [Bool.and_eq_true,decide_eq_true_eq];omega)];done)
   |(rw [if_neg (by simp only [Bool.and_eq_true,decide_eq_true_eq];omega)];done)
 ·refine .T (.z (zfa dR) (.T (.y hs (zld aj) (.T (.z zm (.T (.o (.call call253 rfl (fG hs) ?_))))))));rintro _ w ⟨rfl,hs⟩;refine .T (.z ia (.z zpF (.z zm (.bif (t':=15) rfl (fun DB=>?_) (fun DB=>?_)))))
  ·refine .Fs 5 10 false (.z zpT (.z zm (.Fs 5 17 false (.z zpT (.z zm (.Fs 4 24 false (.z zpT (.z zm (.Fs 4 30 false (.zn zpT (.cT (.ae (.zn zg (.ret (rT (Fin.bw CK rfl ?_))))))))))))))))
   (try simp only [dX] at*)
   (try simp only [cE] at*)
   refine ⟨congrArg I ?_,hs.out⟩;unfold Lim.ok;first
    |(rw [if_pos (by simp only [Bool.and_eq_true,decide_eq_true_eq];omega)];done)
    |(rw [if_neg (by simp only [Bool.and_eq_true,decide_eq_true_eq];omega)];done)
  ·refine .T (.z (zfa ew) (.T (.y hs (zld aj) (.T (.z zm (.T (.o (.call call253 rfl (fG hs) ?_))))))));rintro _ w ⟨rfl,hs⟩;refine .T (.z ia (.z zpF (.z zm (.bif (t':=22) rfl (fun P8=>?_) (fun P8=>?_)))))
   ·refine .Fs 5 17 false (.z zpT (.z zm (.Fs 4 24 false (.z zpT (.z zm (.Fs 4 30 false (.zn zpT (.cT (.ae (.zn zg (.ret (rT (Fin.bw CK rfl ?_)))))))))))))
    (try simp only [dX] at*)
    (try simp only [cE] at*)
    refine ⟨congrArg I ?_,hs.out⟩;unfold Lim.ok;first
     |(rw [if_pos (by simp only [Bool.and_eq_true,decide_eq_true_eq];omega)];done)
     |(rw [if_neg (by simp only [Bool.and_eq_true,decide_eq_true_eq];omega)];done)
   ·refine .T (.z (zfa dR) (.T (.y hs (zld aj) (.T (.z (zfa ew) (.T (.y hs (zld aj) (.T (.z ik (.z zpF (.z zm (.iY (t':=29) rfl (fun Xc=>?_) (fun Xc=>?_)))))))))))))
    ·refine .Fs 4 24 false (.z zpT (.z zm (.Fs 4 30 false (.zn zpT (.cT (.ae (.zn zg (.ret (rT (Fin.bw CK rfl ?_))))))))))
     (try simp only [dX] at*)
     (try simp only [cE] at*)
     refine ⟨congrArg I ?_,hs.out⟩;unfold Lim.ok;first
      |(rw [if_pos (by simp only [Bool.and_eq_true,decide_eq_true_eq];omega)];done)
      |(rw [if_neg (by simp only [Bool.and_eq_true,decide_eq_true_eq];omega)];done)
    ·refine .T (.z (zfa fE) (.T (.y hs (zld aj) (.T (.o (.call call253 rfl (fG hs) ?_))))));rintro _ w ⟨rfl,hs⟩;refine .T (.z ia (.z zpF (.z zm (.bif (t':=35) rfl (fun E7=>?_) (fun E7=>?_)))))
     ·refine .Fs 4 30 false (.zn zpT (.cT (.ae (.zn zg (.ret (rT (Fin.bw CK rfl ?_)))))))
      (try simp only [dX] at*)
      (try simp only [cE] at*)
      refine ⟨congrArg I ?_,hs.out⟩;unfold Lim.ok;first
       |(rw [if_pos (by simp only [Bool.and_eq_true,decide_eq_true_eq];omega)];done)
       |(rw [if_neg (by simp only [Bool.and_eq_true,decide_eq_true_eq];omega)];done)
     ·refine .T (.z (zfa kT) (.T (.y hs (zld aj) (.T (.o (.call call253 rfl (fG hs) ?_))))));rintro _ w ⟨rfl,hs⟩;refine .T (.z ia (.zn zpF (.cond rfl (fun yS=>?_) (fun yS=>?_))))
      ·refine .ae (.zn zg (.ret (rT (Fin.bw CK rfl ?_))))
       (try simp only [dX] at*)
       (try simp only [cE] at*)
       refine ⟨congrArg I ?_,hs.out⟩;unfold Lim.ok;first
        |(rw [if_pos (by simp only [Bool.and_eq_true,decide_eq_true_eq];omega)];done)
        |(rw [if_neg (by simp only [Bool.and_eq_true,decide_eq_true_eq];omega)];done)
      ·refine .skip (nT (.ae (.zn zg (.ret (Fin.bw CK rfl ?_)))))
       (try simp only [dX] at*)
       (try simp only [cE] at*)
       refine ⟨congrArg I ?_,hs.out⟩;unfold Lim.ok;first
        |(rw [if_pos (by simp only [Bool.and_eq_true,decide_eq_true_eq];omega)];done)
        |(rw [if_neg (by simp only [Bool.and_eq_true,decide_eq_true_eq];omega)];done)
theorem wV{w:World}{v:Value}{s:cM}(hs:St H w σ)(hr:RSy H v s):Z4 206 [v] w fun v w'=>v=I s.check∧St H w' σ:=by
 obtain ⟨u,rfl,hr⟩:=hr;obtain ⟨a,c,rfl⟩:=RL.shape hr;have hlen:=(RS.len (RS.U9 hr (Nat.le_refl _) (vN:=s.cJ.length))).2.2;refine Cl.o func206 ntmps206 ag1 ?_;refine .ae (.bx hs fun b1 w hs=>?_);refine .zn zg (.seq (.ae (.z (zfa bU) (.y hs (zld aj) (.o (.call call253 rfl (fG hs) ?_))))));rintro _ w ⟨rfl,hs⟩;refine .zn ia (.cond rfl (fun CA=>?_) (fun CA=>?_))
 ·exact .ae (.zn zg (.ret (rT (Fin.bw results206 rfl ⟨congrArg I (by unfold cM.check;rw [if_pos (by simp at CA;omega)]),hs.out⟩))))
 ·refine .skip (nT (.seq (.ae (.z (zfa bM) (.y hs (zld eL) (.z (de aU) (.zn nJ (.cg rfl (fun eT=>?_) (fun eT=>?_)))))))))
  ·exact .ae (.zn zg (.ret (rT (Fin.bw results206 rfl ⟨congrArg I (by unfold cM.check;rw [if_neg (by simpa using CA),if_pos ai]),hs.out⟩))))
  ·refine .skip (nT (.seq (.ae (.z (zfa bM) (.y hs (zld eL) (.z (de aU) (.zn zm (.for (N:=s.cJ.length) (J:=fun k fr w=>fr=[(14,.slice a s.cJ.length c),(1,Pt b1)]∧(∀j<k,∀l,s.cJ[j]? =some l→l.ok s.many=true)∧St H w (.blk b1 [I s.many,.slice a s.cJ.length c]::σ)) ai ?_ ?_ ?_))))))))
   ·exact .mk ⟨rfl,fun j hj=>by omega,hs⟩
   ·rintro k fr w hk ⟨rfl,fV,hs⟩;obtain ⟨x,hx⟩:=nth (l:=s.cJ) hk;refine .block (.ae (.ixX (enc:=Lim.c) hs hr rfl rfl aU bO hx rfl ?_));intro wG o18 fW;refine .q hs (bH (vs:=x.c) rfl kE bO fW) (.o (.alloc hs fQ rfl fun b4 w hs=>?_));refine .o (.aE (vs:=x.c) hs rfl rfl bO fun w hs=>?_);refine .nil (.ae (.z (zfa bU) (.y hs (zld aj) (.q hs (mD (vs:=x.c) rfl kE bO) (.o (.call call256 rfl (p9 hs) ?_))))));rintro _ w ⟨rfl,hs⟩;have JZ:0≤s.many∧s.many≤64:=by simpa using CA
    rw [show (decide (0≤s.many∧s.many≤64)&&x.ok s.many)=x.ok s.many by rw [decide_eq_true JZ];rfl];refine .zn ez (.dz rfl (fun mJ=>?_) (fun mJ=>?_))
    ·refine .ae (.zn zg (.ret (rB (rT (rB (rT (Fin.bw results206 rfl ?_)))))));exact ⟨congrArg I (by
      have Cv:x.ok s.many=false:=by cases e:x.ok s.many with|false=>rfl|true=>rw [e] at mJ;simp at mJ
      unfold cM.check;rw [if_neg (by simpa using CA),if_neg ai,if_pos (List.any_eq_true.2 ⟨x,List.mem_of_getElem? hx,by rw [Cv];rfl⟩)]),hs.out⟩
    ·exact .skip (nB (nT (.mk ⟨rfl,fY fV hx (by cases e:x.ok s.many with|true=>rfl|false=>rw [e] at mJ;simp at mJ),hs.tail⟩)))
   ·rintro fr w ⟨rfl,fV,hs⟩;refine nT (.ae (.zn zg (.ret (Fin.bw results206 rfl ?_))));exact ⟨congrArg I (by
     have xa:(s.cJ.any fun l=> !l.ok s.many)=false:=by
      simp only [List.any_eq_false,Bool.not_eq_true',Bool.not_eq_false];intro l hl;obtain ⟨j,hj⟩:=List.getElem?_of_mem hl;exact fV j (List.getElem?_eq_some_iff.1 hj).1 l hj
     unfold cM.check;rw [if_neg (by simpa using CA),if_neg ai,xa];rfl),hs.out⟩
theorem wP{w:World}{va:Value}{A B:List Int}(hs:St H w σ)(hA:RI H va A)(hB:RI H vb B):
  Z4 279 [va,vb] w fun v w'=>v= .bool (decide (A=B))∧St H w' σ:=by
 obtain ⟨aA,cA,rfl⟩:=RI.shape hA;obtain ⟨aB,cB,rfl⟩:=RI.shape hB;have hlA:=(RI.len hA).2.2;have hlB:=(RI.len hB).2.2;refine Cl.o func279 ntmps279 ag2 ?_;refine .ae (.zn zg (.seq (.ae (.z zm (.z (de af) (.z zm (.z (de af) (.zn ez (.dz rfl (fun qm=>?_) (fun qm=>?_))))))))))
 ·exact .ae (.zn zg (.ret (rT (Fin.bw results279 rfl ⟨by rw [decide_eq_false (by intro h;subst h;exact qm rfl)],hs⟩))))
 ·refine .skip (nT (.seq (.ae (.z zm (.z (de af) (.zn zm (.for (N:=A.length) (J:=fun k fr w=>fr=[(0,.slice aA A.length cA),(1,.slice aB B.length cB)]∧(∀j<k,A[j]? =B[j]?)∧St H w σ) ai ?_ ?_ ?_)))))))
  ·exact .mk ⟨rfl,fun j h=>by omega,hs⟩
  ·rintro k fr w hk ⟨rfl,h0,hs⟩;obtain ⟨xA,Vv⟩:=nth hk;obtain ⟨xB,T8⟩:=nth (l:=B) (k:=k) ai;refine .block (.ae (.z zm (.zn zg (.seq (.draw mix rfl hs fun w hs=>?_)))));refine .zw 0 rfl zm ?_;refine .z 1 rfl zm ?_;refine .ixX (enc:=fun x=>[I x]) (i:=2) hs rfl az .none hA rfl rfl af ak Vv rfl ?_;intro wG o18 fW;replace fW:=bN.one fW;refine .r (i:=3) hs rfl az .none (aR rfl aj fW) ?_;refine .zw 4 rfl zm ?_;refine .z 5 rfl zm ?_;refine .ixX (enc:=fun x=>[I x]) (i:=6) hs rfl az .none hB rfl rfl af ak T8 rfl ?_;intro No o22 jc;replace jc:=bN.one jc;refine .r (i:=7) hs rfl az .none (aR rfl aj jc) ?_;refine .zw 8 rfl ez ?_;refine .D hs ?_;refine (.dz rfl (fun mJ=>?_) (fun mJ=>?_))
   ·exact .ae (.zn zg (.ret (rB (rT (rB (rT (Fin.bw results279 rfl ⟨by rw [decide_eq_false (by intro h;subst h;rw [Vv] at T8;cases T8;exact mJ rfl)],hs⟩)))))))
   ·refine .skip (nB (nT ?_));exact .mk ⟨rfl,fun j hj=>by
     by_cases e:j=k
     ·subst e;rw [Vv,T8,mJ]
     ·exact h0 j ai,hs⟩
  ·rintro fr w ⟨rfl,h0,hs⟩;refine nT (.ae (.zn zg (.ret (Fin.bw results279 rfl ?_))));exact ⟨by rw [decide_eq_true (List.ext_getElem? fun j=>by
    by_cases e:j<A.length
    ·exact h0 j e
    ·rw [List.getElem?_eq_none ai,List.getElem?_eq_none ai])],hs⟩
set_option maxHeartbeats 8000000 in
theorem tX{w:World}{v:Value}{s:cM}{n:Int}(hs:St H w σ)(hr:RSy H v s)(wk:RI H vw ws)(hp:RPf H vp n us)(hA:fm s ws=0):
  Z4 254 [v,vw,vp] w fun v w'=>∃H1 b,HLe H H1∧v= .bool b∧(b=true↔mQ s ws n us)∧St H1 w' σ:=by
 obtain ⟨u,rfl,hr⟩:=hr;obtain ⟨al,cl,rfl⟩:=RL.shape hr;obtain ⟨aw,cw,rfl⟩:=RI.shape wk;obtain ⟨uu,rfl,hU⟩:=hp;obtain ⟨au,cu,rfl⟩:=RU.shape hU;obtain ⟨aJ,Gl,hz⟩:=uj hA;have E3:=aJ.m0;have Dm:=aJ.n65;have yK:=aJ.len;have QZ:s.many+1=(s.n:Int):=by simp only [cM.n];omega
 refine Cl.o func254 ntmps254 ag3 ?_;refine .ae (.bx hs fun b3 w hs=>?_);refine .bx hs fun b5 w hs=>?_
 refine .zn zg (.seq (.ae (.z (zfa eu) (.y hs (zld zN) (.z (de dx) (.zn nJ (.cg rfl (fun dN=>?_) (fun dN=>?_))))))))
 ·exact .ae (.zn zg (.ret (rT (Fin.bw results254 rfl ⟨H,false,HLe.refl H,rfl,⟨fun h=>(by cases h),fun h=>by have:=h.len;omega⟩,hs.out⟩))))
 ·refine .skip (nT (.ae (.z (zfa bU) (.y hs (zld aj) (.z cD ?_)))));rw [QZ];refine .o (.BJ s.n hs rfl rfl af pN rfl ak dw ai fun IG w hs=>?_);refine .zn zg (.ae (.z zg (.zn zg (.seq (.ae (.z (zfa eu) (.y hs (zld zN) (.z (de dx) (.zn zm (.for (N:=us.length) (J:=fun k fr w=>fr=[(22,.slice au us.length cu),(7,.slice (some ⟨IG,0,none⟩) s.n s.n),(8,I (kL us k)),(9,I (IntKind.i64.wrap (oN s us k))),(3,Pt b3),(5,Pt b5),(1,.slice aw ws.length cw)]∧∃C,(C.length=s.n∧∀v<s.n,gi C v=tC s us k v)∧(∀i<k,Cm s us i)∧kL us k≤3600000000000*k∧St H w (.blk IG (Is C):: .blk b5 [I n,.slice au us.length cu]:: .blk b3 [I s.many,.slice al s.cJ.length cl]::σ)) ai ?_ ?_ ?_))))))))))
  ·exact .mk ⟨rfl,_,⟨bB,fun v hv=>by rw [eU _ _ hv];rfl⟩,fun i hi=>by omega,by simp [kL,aM],hs⟩ (hs:= .cons rfl (.cons rfl (.cons rfl (.cons rfl (.cons rfl (.dc rfl (by simp [oN,aM,vA]) aW))))))
  ·rintro k fr w hk ⟨rfl,C,⟨UN,M4⟩,MY,hTm,hs⟩;have hx:=Ot hk;have YO:us.length≤400:=by omega
   refine .block (.ae (.z zm (.ixX (enc:=Use.c) hs hU rfl rfl dx mZ hx rfl ?_)));intro A3 o27 pH;refine .q hs (bH (vs:=(gu us k).c) rfl isAgg199 mZ pH) (.o (.alloc hs Rm rfl fun sO w hs=>?_));refine .z zg (.o (.aE (vs:=(gu us k).c) hs rfl rfl mZ fun w hs=>?_));refine .nil (.seq (.cut (fun fs w=>∃p,mT fs ⟨110,[],[(58,.bool p),(11,Pt sO),(24,I (k:Int)),(23,I (us.length:Int)),(22,.slice au us.length cu),(7,.slice (some ⟨IG,0,none⟩) s.n s.n),(8,I (kL us k)),(9,I (IntKind.i64.wrap (oN s us k))),(3,Pt b3),(5,Pt b5),(1,.slice aw ws.length cw)]⟩∧(p=true→¬Cm s us k)∧(p=false→Cm s us k)∧St H w (.blk sO (gu us k).c:: .blk IG (Is C):: .blk b5 [I n,.slice au us.length cu]:: .blk b3 [I s.many,.slice al s.cJ.length cl]::σ)) ?_ ?_))
   ·refine .draw mix rfl hs fun w hs=>?_
    refine .zw 0 rfl (zfa lr) ?_;refine .y 1 rfl hs aj ?_;refine .z 2 rfl (zfa bM) ?_;refine .y 3 rfl hs eL ?_;refine .z 4 rfl (de aU) ?_;refine .z 5 rfl iX ?_;refine .E 6 hs ?_;refine .call NA rfl (ee hs) ?_;rintro _ w ⟨rfl,hs⟩;refine .go (.zw 7 rfl ia ?_);refine .z 8 rfl zm ?_;refine .bif (t':=37) rfl (fun vE=>?_) (fun vE=>?_)
    ·refine .F 9 rfl (.F 10 rfl (.F 11 rfl (.F 12 rfl (.zw 13 rfl zpT ?_))));refine .z 14 rfl zm ?_;refine .F 15 rfl (.F 16 rfl ?_);refine .F 17 rfl (.F 18 rfl (.F 19 rfl (.F 20 rfl (.F 21 rfl (.F 22 rfl (.F 23 rfl (.F 24 rfl (.F 25 rfl (.F 26 rfl (.F 27 rfl (.F 28 rfl (.zw 29 rfl zpT ?_))))))))))));refine .D hs ?_;exact nT ⟨_,aW,by
      intro hp hU;have h1:=hU.l0;have h2:=hU.l1;have h3:=hU.t0;have h4:=hU.t1;have h5:=hU.ord;first
       |(cases hp;done)
       |(have:=dX.1 vE;omega)
       |(have:=dX.1 vD;omega)
       |(have:=of_decide_eq_true hp;have:=h5 ai;omega),by
      intro hp;first
       |(cases hp;done)
       |exact ⟨by have:=cE.1 vE;omega,by have:=cE.1 vE;omega,by have:=cE.1 vD;omega,by have:=cE.1 vD;omega,fun h=>by first|omega|(have:=of_decide_eq_false hp;omega)⟩,hs⟩
    ·refine .zw 9 rfl (zfa j6) ?_;refine .y 10 rfl hs aj ?_;refine .E 11 hs ?_;refine .call NA rfl (ee hs) ?_;rintro _ w ⟨rfl,hs⟩;refine .go (.zw 12 rfl ia ?_);refine .z 13 rfl zpF ?_;refine .z 14 rfl zm ?_;refine .bif (t':=43) rfl (fun vD=>?_) (fun vD=>?_)
     ·refine .F 15 rfl (.F 16 rfl ?_);refine .F 17 rfl (.F 18 rfl (.F 19 rfl (.F 20 rfl (.F 21 rfl (.F 22 rfl (.F 23 rfl (.F 24 rfl (.F 25 rfl (.F 26 rfl (.F 27 rfl (.F 28 rfl (.zw 29 rfl zpT ?_))))))))))));refine .D hs ?_;exact nT ⟨_,aW,by
       intro hp hU;have h1:=hU.l0;have h2:=hU.l1;have h3:=hU.t0;have h4:=hU.t1;have h5:=hU.ord;first
        |(cases hp;done)
        |(have:=dX.1 vE;omega)
        |(have:=dX.1 vD;omega)
        |(have:=of_decide_eq_true hp;have:=h5 ai;omega),by
       intro hp;first
        |(cases hp;done)
        |exact ⟨by have:=cE.1 vE;omega,by have:=cE.1 vE;omega,by have:=cE.1 vD;omega,by have:=cE.1 vD;omega,fun h=>by first|omega|(have:=of_decide_eq_false hp;omega)⟩,hs⟩
     ·refine .zw 15 rfl zm ?_;refine .z 16 rfl nJ ?_;refine .z 17 rfl zm ?_;refine .iY (t':=46) rfl (fun MX=>?_) (fun MX=>?_)
      ·refine .zw 18 rfl (zfa eu) ?_;refine .y 19 rfl hs zN ?_;refine .z 20 rfl zm ?_;refine .z 21 rfl iX ?_;refine .ixX (enc:=Use.c) (i:=22) hs rfl az (.some rfl rfl) hU rfl rfl dx mZ (Ot (i:=k - 1) ai) ai ?_;intro b51 o51 PX;refine .zw 23 rfl (zfa lr) (.r (i:=24) hs rfl az (.some rfl rfl) (aR rfl aj (PX.get 0 rfl)) ?_);refine .zw 25 rfl (zfa lr) ?_;refine .y 26 rfl hs aj ?_;refine .z 27 rfl Ct ?_;refine .z 28 rfl zpT ?_;refine .z 29 rfl zpF ?_;refine .D hs ?_;exact nT ⟨_,aW,by
        intro hp hU;have h1:=hU.l0;have h2:=hU.l1;have h3:=hU.t0;have h4:=hU.t1;have h5:=hU.ord;first
         |(cases hp;done)
         |(have:=dX.1 vE;omega)
         |(have:=dX.1 vD;omega)
         |(have:=of_decide_eq_true hp;have:=h5 ai;omega),by
        intro hp;first
         |(cases hp;done)
         |exact ⟨by have:=cE.1 vE;omega,by have:=cE.1 vE;omega,by have:=cE.1 vD;omega,by have:=cE.1 vD;omega,fun h=>by first|omega|(have:=of_decide_eq_false hp;omega)⟩,hs⟩
      ·refine .F 18 rfl (.F 19 rfl (.F 20 rfl (.F 21 rfl (.F 22 rfl (.F 23 rfl (.F 24 rfl (.F 25 rfl (.F 26 rfl (.F 27 rfl (.zw 28 rfl zpF ?_))))))))));refine .z 29 rfl zpF ?_;refine .D hs ?_;exact nT ⟨_,aW,by
        intro hp hU;have h1:=hU.l0;have h2:=hU.l1;have h3:=hU.t0;have h4:=hU.t1;have h5:=hU.ord;first
         |(cases hp;done)
         |(have:=dX.1 vE;omega)
         |(have:=dX.1 vD;omega)
         |(have:=of_decide_eq_true hp;have:=h5 ai;omega),by
        intro hp;first
         |(cases hp;done)
         |exact ⟨by have:=cE.1 vE;omega,by have:=cE.1 vE;omega,by have:=cE.1 vD;omega,by have:=cE.1 vD;omega,fun h=>by first|omega|(have:=of_decide_eq_false hp;omega)⟩,hs⟩
   ·rintro fs w ⟨p,iR,PE,Lm,hs⟩;refine WE.sub ?_ iR;refine (.cond rfl (fun w8=>?_) (fun w8=>?_))
    ·exact .ae (.zn zg (.ret (rT (rB (rT (rB (rT (Fin.bw results254 rfl ⟨H,false,HLe.refl H,rfl,⟨fun h=>(by cases h),fun h=>(PE w8 (h.use k hk)).elim⟩,hs.out⟩))))))))
    ·refine .skip (nT (.ae ?_));have Tf:=Lm (by simpa using w8);have Xe:∀i<k+1,Cm s us i:=fun i hi=>by
      by_cases e:i=k
      ·subst e;exact Tf
      ·exact MY i ai
     have hTp:=IQ MY;have Uc:=Tf.t0;have ht1:=Tf.t1;have Wj:=Tf.l0;have ML:=Tf.l1;have Ut:=Gz (ls:=s.cJ) (i:=(gu us k).l.toNat) ai;obtain ⟨⟨xa0,xa1⟩,⟨xb0,xb1⟩,xne,xM,-⟩:=aJ.lim _ (List.mem_of_getElem? Ut);have Uz:oN s us (k+1)=oN s us k+(gu us k).t*(ul s us k).M:=rfl;have hts:kL us (k+1)=kL us k+(gu us k).t:=rfl;change 0≤(ul s us k).A at xa0;change (ul s us k).A≤s.many at xa1;change 0≤(ul s us k).B at xb0;change (ul s us k).B≤s.many at xb1;change (ul s us k).A≠(ul s us k).B at xne;change -20000≤(ul s us k).M∧(ul s us k).M≤20000 at xM;have IA:(gu us k).t* -20000≤(gu us k).t*(ul s us k).M:=Int.mul_le_mul_of_nonneg_left xM.1 ai;have NX:(gu us k).t*(ul s us k).M≤(gu us k).t*20000:=Int.mul_le_mul_of_nonneg_left xM.2 ai;have Us:=JL MY (ul s us k).B.toNat;have hia:=JL MY (ul s us k).A.toNat;have XM:(ul s us k).A.toNat<s.n:=by omega
     have XL:(ul s us k).B.toNat<s.n:=by omega
     have hgA:=M4 _ XM;have hgB:=M4 _ XL;refine .z (zfa bM) (.y hs (zld eL) (.z (zfa lr) (.y hs (zld aj) (.ixX (enc:=Lim.c) hs hr rfl rfl aU bO Ut ai ?_))));intro UQ o63 rj;refine .q hs (bH (vs:=(ul s us k).c) rfl kE bO rj) (.o (.alloc hs fQ rfl fun Fx w hs=>?_));refine .o (.aE (vs:=(ul s us k).c) hs rfl rfl bO fun w hs=>?_);refine .nil (.seq (.draw mix rfl hs fun w hs=>?_));refine .zw 0 rfl zm ?_;refine .z 1 rfl (zfa ew) ?_;refine .y 2 rfl hs aj ?_;refine .zw 3 rfl (kM (k:=(ul s us k).B.toNat) rfl rfl af ak ai XL) (.y 4 rfl hs aj ?_);refine .z 5 rfl (zfa j6) ?_;refine .y 6 rfl hs aj ?_;refine .z 7 rfl cD ?_;refine .zw 8 rfl (kM (k:=(ul s us k).B.toNat) rfl rfl af ak ai XL) (.E 9 hs ?_);refine .store hs rfl rfl ak ?_;intro w hs;refine .go (.D hs ?_);have ZO:(C.set (ul s us k).B.toNat (gi C (ul s us k).B.toNat+(gu us k).t)).length=s.n:=by rw [List.length_set];exact UN
     have Qd:∀v,gi (C.set (ul s us k).B.toNat (gi C (ul s us k).B.toNat+(gu us k).t)) v=if v=(ul s us k).B.toNat then gi C (ul s us k).B.toNat+(gu us k).t else gi C v:=fun v=>ig ai _ v
     generalize C.set (ul s us k).B.toNat (gi C (ul s us k).B.toNat+(gu us k).t)=D at hs ZO Qd;have hgD:gi D (ul s us k).A.toNat=gi C (ul s us k).A.toNat:=by rw [Qd,if_neg ai]
     refine .seq (.draw mix rfl hs fun w hs=>?_);refine .zw 0 rfl zm ?_;refine .z 1 rfl (zfa dR) ?_;refine .y 2 rfl hs aj ?_;refine .zw 3 rfl (kM (k:=(ul s us k).A.toNat) rfl rfl af ak ai XM) (.y 4 rfl hs aj ?_);refine .z 5 rfl (zfa j6) ?_;refine .y 6 rfl hs aj ?_;refine .z 7 rfl iX ?_;refine .zw 8 rfl (kM (k:=(ul s us k).A.toNat) rfl rfl af ak ai XM) (.E 9 hs ?_);refine .store hs rfl rfl ak ?_;intro w hs;refine .go (.D hs (.ae (.z zm (.z (zfa j6) (.y hs (zld aj) (.z cD (.zn zg (.region (.z zm (.z (zfa j6) (.y hs (zld aj) (.z (zfa fE) (.y hs (zld aj) (.z mV (.q hs (Jk rfl rfl) ?_)))))))))))))));rw [yI];refine .zn zg (nB (nT ?_));exact .mk ⟨rfl,D.set (ul s us k).A.toNat (gi D (ul s us k).A.toNat - (gu us k).t),⟨by rw [List.length_set];exact ZO,fun v hv=>by
      have JR:tC s us (k+1) v=tC s us k v+(gu us k).t*(ind (ul s us k).B.toNat v - ind (ul s us k).A.toNat v):=rfl;rw [ig ai,JR,←M4 v hv];by_cases e1:v=(ul s us k).A.toNat
      ·have i1:ind (ul s us k).A.toNat v=1:=by unfold ind;rw [if_pos e1.symm]
       have i2:ind (ul s us k).B.toNat v=0:=by unfold ind;rw [if_neg ai]
       rw [if_pos e1,hgD,i1,i2,e1];omega
      ·have i1:ind (ul s us k).A.toNat v=0:=by unfold ind;rw [if_neg ai]
       rw [if_neg e1,Qd,i1];by_cases e2:v=(ul s us k).B.toNat
       ·have i2:ind (ul s us k).B.toNat v=1:=by unfold ind;rw [if_pos e2.symm]
        rw [if_pos e2,i2,e2];omega
       ·have i2:ind (ul s us k).B.toNat v=0:=by unfold ind;rw [if_neg ai]
        rw [if_neg e2,i2];omega⟩,Xe,ai,hs.sb⟩ (hs:= .cons rfl (.cons rfl (.cons rfl (.cons rfl (.dc rfl hts.symm (.dc rfl (by rw [Uz]) aW))))))
  ·rintro fr w ⟨rfl,C,⟨UN,M4⟩,MY,hTm,hs⟩;have hlen:us.length≤400:=by omega
   obtain ⟨H1,aq,Xk,hs⟩:=hs.bZ (b:=IG) (c:=Is C) .here;have hRC:RI H1 (.slice (some ⟨IG,0,none⟩) s.n s.n) C:=by
    have:=Row.RI (xs:=C) (spare:=[]) (by simpa using Xk) s.n ai ai
    rwa [UN] at this
   have AS:=RI.tail hRC (k:=1) (by have:=s.BD;omega);have P9:=RI.tail (wk.mono aq) (k:=1) (by have:=s.BD;omega);have zF:=GN aJ MY;have heq:C.drop 1=ws.drop 1↔∀v,1≤v→v<s.n→tC s us us.length v=gi ws v:=by
    constructor
    ·intro h v h1 h2;rw [←M4 v h2];have:=congrArg (fun l=>gi l (v - 1)) h;simpa [gi,List.getD,show 1+(v - 1)=v by omega,show v - 1+1=v by omega] using this
    ·intro h;refine Ff (by simp [UN,Gl]) fun k hk=>?_
     have pQ:k+1<s.n:=by simp at hk;omega
     have:=h (k+1) ai pQ;rw [←M4 _ pQ] at this;simpa [gi,List.getD,Nat.add_comm] using this
   refine nT (.seq (.draw mix rfl hs fun w hs=>?_));refine .zw 0 rfl zm ?_;refine .z 1 rfl sY ?_;refine .z 2 rfl zm ?_;refine .iY (t':=97) rfl (fun tL=>?_) (fun tL=>?_)
   ·refine .zw 3 rfl zm (.zw 4 rfl (yt (k:=1) rfl rfl af ak rfl (by have:=s.BD;omega)) ?_);refine .zw 5 rfl zm (.zw 6 rfl (yt (k:=1) rfl rfl af ak rfl (by have:=s.BD;omega)) ?_);refine .E 7 hs ?_;refine .call call279 rfl (wP hs AS P9) ?_;rintro _ w ⟨rfl,hs⟩;refine .go (.zw 8 rfl zpT ?_);refine .z 9 rfl zm ?_;refine .bif (t':=104) rfl (fun Gs=>?_) (fun Gs=>?_)
    ·refine .zw 10 rfl zm ?_;refine .z 11 rfl (zfa gG) ?_;refine .y 12 rfl hs aj ?_;refine .z 13 rfl ik ?_;refine .z 14 rfl zpT ?_;refine .z 15 rfl zg ?_;refine .D hs ?_;refine .ret (Fin.bw results254 rfl ?_);exact ⟨H1,_,aq,rfl,by
      first
       |exact ⟨fun h=>(by cases h),fun h=>(tL h.tot).elim⟩
       |exact ⟨fun h=>(by cases h),fun h=>by have:=heq.2 h.into;simp_all⟩
       |(rw [kO ai]
         have he:C.drop 1=ws.drop 1:=by simpa using Gs
         exact ⟨fun h=>⟨hlen,MY,tL,heq.1 he,of_decide_eq_true h⟩,fun h=>decide_eq_true h.bound⟩),hs.out⟩
    ·refine .F 10 rfl (.F 11 rfl (.F 12 rfl (.F 13 rfl (.zw 14 rfl zpF ?_))));refine .z 15 rfl zg ?_;refine .D hs ?_;refine .ret (Fin.bw results254 rfl ?_);exact ⟨H1,_,aq,rfl,by
      first
       |exact ⟨fun h=>(by cases h),fun h=>(tL h.tot).elim⟩
       |exact ⟨fun h=>(by cases h),fun h=>by have:=heq.2 h.into;simp_all⟩
       |(rw [kO ai]
         have he:C.drop 1=ws.drop 1:=by simpa using Gs
         exact ⟨fun h=>⟨hlen,MY,tL,heq.1 he,of_decide_eq_true h⟩,fun h=>decide_eq_true h.bound⟩),hs.out⟩
   ·refine .F 3 rfl (.F 4 rfl (.F 5 rfl (.F 6 rfl (.F 7 rfl (.zw 8 rfl zpF ?_)))));refine .z 9 rfl zm ?_;refine .F 10 rfl (.F 11 rfl (.F 12 rfl (.F 13 rfl (.zw 14 rfl zpF ?_))));refine .z 15 rfl zg ?_;refine .D hs ?_;refine .ret (Fin.bw results254 rfl ?_);exact ⟨H1,_,aq,rfl,by
     first
      |exact ⟨fun h=>(by cases h),fun h=>(tL h.tot).elim⟩
      |exact ⟨fun h=>(by cases h),fun h=>by have:=heq.2 h.into;simp_all⟩
      |(rw [kO ai]
        have he:C.drop 1=ws.drop 1:=by simpa using Gs
        exact ⟨fun h=>⟨hlen,MY,tL,heq.1 he,of_decide_eq_true h⟩,fun h=>decide_eq_true h.bound⟩),hs.out⟩
theorem qG{w:World}{v:Value}{s:cM}{n:Int}(hs:St H w σ)(hr:RSy H v s)(wk:RI H vw ws)(hp:RPf H vp n us):
  Z4 203 [v,vw,vp] w fun v w'=>∃H1 e,HLe H H1∧v=I e∧D7 s ws n us e∧St H1 w' σ:=by
 obtain ⟨u,rfl,hr⟩:=hr;obtain ⟨al,cl,rfl⟩:=RL.shape hr;obtain ⟨aw,cw,rfl⟩:=RI.shape wk;obtain ⟨uu,rfl,hU⟩:=hp;obtain ⟨au,cu,rfl⟩:=RU.shape hU;refine Cl.o func203 ntmps203 ag3 ?_;refine .ae (.bx hs fun b3 w hs=>?_);refine .bx hs fun b5 w hs=>?_
 refine .zn zg (.seq (.ae (.y hs (zls [_,_] cf bg) (.z zm (.o (.call call222 rfl (ky (s:=s) hs ⟨_,rfl,hr⟩ wk) ?_))))));rintro _ w ⟨rfl,hs⟩;refine .zn zg (.ae (.z zm (.zn ez (.dz rfl (fun eT=>?_) (fun eT=>?_)))))
 ·exact .ae (.z zm (.zn zg (.ret (rT (Fin.bw results203 rfl ⟨H,_,HLe.refl H,rfl,.ask eT,hs.out⟩)))))
 ·refine .skip (nT (.seq (.ae (.y hs (zls [_,_] cf bg) (.z zm (.y hs (zls [_,_] fU ck) ?_))))));have hA:fm s ws=0:=by simpa using eT
  refine .o (.call call254 rfl (tX (s:=s) (n:=n) (us:=us) hs ⟨_,rfl,hr⟩ wk ⟨_,rfl,hU⟩ hA) ?_);rintro _ w ⟨H1,b,aq,rfl,hb,hs⟩;refine .zn ia (.cond rfl (fun fW=>?_) (fun fW=>?_))
  ·exact .ae (.zn zg (.ret (rT (Fin.bw results203 rfl ⟨H1,_,aq,rfl,.bad hA (fun h=>by rw [hb.2 h] at fW;cases fW),hs.out⟩))))
  ·exact .skip (nT (.ae (.zn zg (.ret (Fin.bw results203 rfl ⟨H1,_,aq,rfl,.ok hA (hb.1 (by simpa using fW)),hs.out⟩)))))
theorem nb{w:World}{v:Value}{l:List Int}(hs:St H w (en::σ))(ho:cz 1 v (Is l) en)(hl:l.length≤1000000):
  Z4 270 [v] w fun _ w'=>∃j9,cz 1 v (Is l.reverse) j9∧St H w' (j9::σ):=by
 rcases ho with ⟨a,rfl,h2,rfl⟩|⟨b,len,cap,sp,rfl,rfl,h2,h3,h4⟩
 ·obtain rfl:l=[]:=by
   have:=congrArg List.length h2;exact List.length_eq_zero_iff.1 (by simpa using this)
  have hs:=hs.tail;refine Cl.o func270 ntmps270 ag1 ?_;refine .ae (.z zm (.z (de af) (.z iX (.z zg (.zn zg (.block (.loop (fun _:Unit=>⟨28,[],[(2,I 0),(3,I (-1))]⟩) (fun _ w=>St H w σ) (fun _=>0) () aW hs ?_)))))));rintro _ w hs;refine .seq (.ae (.z zm (.z zm (.zn ju (.cg rfl (fun mW=>?_) (fun mW=>?_))))))
  ·omega
  ·exact .exit (xT (xT (xB (Fin.DS results270 ⟨.nul,.nil 1 a,hs.nul⟩))))
 obtain rfl:len=l.length:=by simpa using h2.symm
 refine Cl.o func270 ntmps270 ag1 ?_;refine .ae (.z zm (.z (de af) (.z iX (.z zg (.zn zg (.block (.loop (fun p:Nat×List Int=>⟨28,[],[(2,I p.1),(3,I ((l.length:Int) - 1 - p.1)),(0,.slice (some ⟨b,0,none⟩) l.length cap)]⟩) (fun p w=>(2*p.1≤l.length+1∧qN l p.2 p.1)∧St H w (.blk b (Is p.2++sp)::σ)) (fun p=>l.length - p.1) (0,l) (.cons rfl (.dc rfl bB (.cons rfl (.nil rfl rfl)))) ⟨⟨bB,.start l⟩,hs⟩ ?_)))))));rintro ⟨i,L⟩ w ⟨⟨h5,h6⟩,hs⟩;dsimp only at h5 h6 hs ⊢;have hL:=h6.1;refine .seq (.ae (.z zm (.z zm (.zn ju (.cg rfl (fun mW=>?_) (fun mW=>?_))))))
 ·refine .skip (nT (.seq (.block (.draw mix rfl hs fun w hs=>?_))));refine .zw 0 rfl zm ?_;refine .z 1 rfl zm ?_;refine .z 2 rfl zm ?_;refine .z 3 rfl zm ?_;refine .z 4 rfl zm ?_;refine .z 5 rfl zm ?_;refine .zw 6 rfl (kM (k:=l.length - 1 - i) rfl rfl af ak ai ai) (.load (i:=7) hs rfl az .none rfl aj ?_ (hv:=gz ai sp));refine .zw 8 rfl zm ?_;refine .z 9 rfl zm ?_;first|(refine .ixv 10 rfl hs af ak ?_;intro Nn o24 mJ)|refine .z 10 rfl (zix af ak) ?_
  refine .load (i:=11) hs rfl az .none rfl aj ?_ (hv:=gz ai sp);first|(refine .ixv 12 rfl hs af ak ?_;intro TF o26 jy)|refine .z 12 rfl (zix af ak) ?_
  refine .E 13 hs ?_;refine .store hs rfl rfl ak ?_ eJ (by simp;omega) (mS ai sp _);intro w hs;refine .go (.zw 14 rfl (kM (k:=l.length - 1 - i) rfl rfl af ak ai ai) (.E 15 hs ?_));refine .store hs rfl rfl ak ?_ eJ (by simp;omega) (mS (by simp;omega) sp _);intro w hs;exact .go (.D hs (nB (nT (.region (.z zm (.z cD (.z zm (.z iX (.z zg (.zn zg (nT ⟨(i+1,_),.cons rfl (.dc rfl (by push_cast;omega) (.cons rfl (.nil rfl rfl))),⟨⟨by dsimp only;omega,h6.step ai⟩,hs⟩,by dsimp only;omega⟩)))))))))))
 ·refine .exit (xT (xT (xB ?_)));rw [h6.done ai] at hs;exact Fin.DS results270 ⟨_,.inr ⟨b,l.length,cap,sp,rfl,rfl,bB,by rw [←h3];simp,h4⟩,hs⟩
inductive Rl(s:cM)(xs:List Int):Int→Prop
 |bad (h:s.check≠0) (h1:xs=[]):Rl s xs s.check
 |sound (h:s.Ok) (h1:s.Sound) (h2:xs=[]):Rl s xs 0
 |chain {st:BS} {x:Arc} {z k:Nat} (h:s.Ok) (h1:¬s.Sound) (h2:TN s.n s.da st (some x)) (h3:z=sq st.by_ x.t (s.n+1)) (h4:1≤k) (h5:k≤s.n) (h6:sq st.by_ z k=z) (h7:xs=(BP st.by_ z k).reverse):Rl s xs 0
theorem Rl.IZ{s:cM}(h:Rl s xs 0):xs=[]↔s.Sound:=by
 generalize hz:(0:Int)=y at h
 cases h with
 |bad h=>exact (h hz.symm).elim
 |sound _ h1 h2=>exact ⟨fun _=>h1,fun _=>h2⟩
 | @chain st x z k _ h1 _ _ h4 _ _ h7=>exact ⟨fun h=>by
   have:=congrArg List.length (h7.symm.trans h);rw [List.length_reverse,qg] at this;simp at this;omega,fun h=>(h1 h).elim⟩
set_option maxHeartbeats 4000000 in
theorem xf{w:World}{v:Value}{s:cM}(hs:St H w σ)(hr:RSy H v s):
  Z4 221 [v] w fun u w'=>∃H1 vx xs e,HLe H H1∧u= .tuple #[vx,I e]∧RI H1 vx xs∧Rl s xs e∧St H1 w' σ:=by
 obtain ⟨u,rfl,hr⟩:=hr;obtain ⟨al,cl,rfl⟩:=RL.shape hr;refine Cl.o func221 ntmps221 ag1 ?_;refine .ae (.bx hs fun b1 w hs=>?_);refine .z zg (.zn zg (.seq (.ae (.y hs (zls [_,_] cf bg) (.o (.call call197 rfl (jN (s:=s) hs ⟨_,rfl,hr⟩) ?_))))));rintro _ w ⟨rfl,hs⟩;refine .zn zg (.ae (.z zm (.zn ez (.dz rfl (fun js=>?_) (fun js=>?_)))))
 ·exact .ae (.z zm (.z zg (.zn zg (.ret (rT (Fin.jr results221 rfl rfl ⟨H,_,[],_,HLe.refl H,rfl,RS.nil H 1 none 0,.bad js rfl,hs.out⟩))))))
 ·refine .skip (nT (.seq (.draw mix rfl hs fun w hs=>?_)));refine .zw 0 rfl (zfa bU) ?_;refine .y 1 rfl hs aj ?_;refine .ys 2 rfl hs [_,_] cf bg ?_;refine .E 3 hs ?_;have aJ:s.Ok:=s.cO.1 (by simpa using js);have oC:=aJ.da;have hn:s.n=s.many.toNat+1:=rfl;have E3:=aJ.m0;have IA:=aJ.m1;refine .call call269 rfl (lW (s:=s) hs aJ ⟨_,rfl,hr⟩) ?_;rintro _ w ⟨H1,mU,aq,rfl,pF,hs⟩;refine .go (.E 4 hs ?_);have NW:=kv (N:=s.many.toNat) hs ai (by rw [←hn];exact oC) pF call295;rw [Int.toNat_of_nonneg E3] at NW;refine .call call225 rfl NW ?_;rintro _ w ⟨H2,bc,bb,st,ov,vo,aQ,rfl,HG,QX,hs⟩;obtain ⟨a',rfl,Oh⟩:=HG.ptr;refine .go (.zw 5 rfl zm ?_);refine .z 6 rfl zex ?_;refine .z 7 rfl zex ?_;refine .z 8 rfl zex ?_;refine .z 9 rfl zg ?_;refine .z 10 rfl zg ?_;refine .z 11 rfl zg ?_;refine .D hs ?_;refine .seq (.ae (.z zm (.q hs (Ji rfl rfl runUnderlying268) (.nil (.cond rfl (fun jy=>?_) (fun jy=>?_))))))
  ·refine .ae (.z zg (.zn zg (.ret (rT (Fin.jr results221 rfl rfl ?_)))));exact ⟨H2,_,[],0,aq.trans aQ,rfl,RS.nil H2 1 none 0,.sound aJ (by
    obtain ⟨r,Lr,BQ⟩:=QX
    cases ov with
    |none=>exact ⟨_,(Lr.sol (by rw [←hn];exact oC) ai).1⟩
    |some x=>rw [Oh] at jy;cases jy) rfl,hs.out⟩
  ·refine .skip (nT (.ae (.z zm ?_)));obtain ⟨x,rfl⟩:=OvR.yes Oh jy;obtain ⟨b3,e3,qh⟩:=HG;cases e3
   have Sb:cellAt H2 b3 1=some (I x.t):=qh.at 1;have QZ:s.many+2=((s.many.toNat+2:Nat):Int):=by omega
   have V8:¬s.Sound:=by
    obtain ⟨r,Lr,BQ⟩:=QX;exact Lr.none (by rw [←hn];exact oC) ai (by have:=BQ bB;omega)
   obtain ⟨IB,VU,NP⟩:st.by_.length=s.many.toNat+1∧(∀v<s.many.toNat+1,(ga st.by_ v).f<s.many.toNat+1)∧x.t<s.many.toNat+1:=by
    obtain ⟨r,Lr,BQ⟩:=QX;exact ⟨Lr.lb,fun v hv=>(Lr.rg v hv).1,(oC.2 x (Lr.ovm x rfl)).2.1⟩
   have Iy:=fun k=>BA VU NP k
   refine .z znc (.z (zfa dt) (.q hs (aR rfl aj Sb) (.zn zg (.seq (.ae (.z (zfa bU) (.y hs (zld aj) (.z cD ?_))))))));rw [QZ];refine .zn zm (.for (N:=s.many.toNat+2) (J:=fun k fr w=>fr=[(8,I (sq st.by_ x.t k)),(6,.slice (some ⟨bb,0,none⟩) (s.many.toNat+1) (s.many.toNat+1))]∧St H2 w (.blk bc (Is st.cost):: .blk bb (kB st.by_):: .blk b1 [I s.many,.slice al s.cJ.length cl]::σ)) ai ?_ ?_ ?_)
   ·exact .mk ⟨rfl,hs⟩
   ·rintro k fr w hk ⟨rfl,hs⟩;refine .block (.region (.z zm (.z zm (.q hs (AJ (k:=sq st.by_ x.t k) rfl rfl aH aV rfl (Iy k)) (.z (zfa dk) (.q hs (ja rfl aj (.there .here) (uv (j:=0) (by rw [IB];exact Iy k) ef)) ?_))))));exact .zn zg (nB (nT (.mk ⟨rfl,hs.out⟩)))
   ·rintro fr w ⟨rfl,hs⟩;obtain ⟨pd,PE,Lm,YR⟩:=Hs VU NP (m:=s.many.toNat+2) ai;have Vs:=Iy (s.many.toNat+2);generalize hz:sq st.by_ x.t (s.many.toNat+2)=z at YR Vs ⊢;have NO:=fun k=>BA VU Vs k
    refine nT (.ae (.zn zg (.seq (.ae (.z zm (.zn zg (.block ?_)))))));refine .loop (fun p:Nat×Value=>⟨62,[],[(9,p.2),(8,I (sq st.by_ z p.1)),(10,I z),(6,.slice (some ⟨bb,0,none⟩) (s.many.toNat+1) (s.many.toNat+1))]⟩)
     (fun p w=>p.1<pd∧∃en,cz 1 p.2 (Is (BP st.by_ z p.1)) en∧St H2 w (en:: .blk bc (Is st.cost):: .blk bb (kB st.by_):: .blk b1 [I s.many,.slice al s.cJ.length cl]::σ))
     (fun p=>pd - p.1) (0,.slice none 0 0) aW
     ⟨ai,_,.nil 1 none,hs.nul⟩ ?_
    rintro ⟨k,v9⟩ w ⟨hk,en,hO,hs⟩;dsimp only at hk hO ⊢;refine .block (.ae (.z zm (.z zm (.z zm (.q hs (AJ (k:=sq st.by_ z k) rfl rfl aH aV rfl (NO k)) (.z (zfa dO) (.q hs (ja rfl aj (.there (.there .here)) (uv (j:=3) (by rw [IB];exact NO k) ef)) ?_)))))));refine .o (.buildSlice (cells:=[_]) hs cQ rfl rfl fun XS w hs=>?_);refine .o (.append (ys:=[I (ga st.by_ (sq st.by_ z k)).l]) hs cI rfl rfl hO (.own .here rfl rfl) (by simp [Value.oneCell']) (fun l' h=>by simp [BP] at h;omega) ?_);intro v50 en50 w eb hs;refine .zn zg (.ae (.z zm (.z zm (.q hs (AJ (k:=sq st.by_ z k) rfl rfl aH aV rfl (NO k)) (.z (zfa dk) (.q hs (ja rfl aj (by repeat (first|exact .here|refine .there ?_)) (uv (j:=0) (by rw [IB];exact NO k) ef)) ?_))))));refine .zn zg (.ae (.z zm (.z zm (.zn ik (.cg rfl (fun w8=>?_) (fun w8=>?_))))))
    ·refine .exit (xN (xT (xB (nT (.ae (.z zm ?_))))));have kD:cz 1 v50 (Is (BP st.by_ z (k+1))) en50:=by rw [AP];simpa [Is] using eb
     have hkz:sq st.by_ z (k+1)=z:=by
      have h3:((ga st.by_ (sq st.by_ z k)).f:Int)=z:=by simpa using w8
      show (ga st.by_ (sq st.by_ z k)).f=z;omega
     refine .o (.call call270 rfl (nb hs kD (by rw [qg];omega)) ?_);rintro _ w ⟨j9,tN,hs⟩;refine .nil (.ae (.z zm (.z zg (.zn zg (.ret (Fin.jr results221 rfl rfl ?_))))));obtain ⟨H3,bJ,hRI,hs⟩:=cz.dT tN (by rw [List.length_reverse,qg];omega) hs .here;exact ⟨H3,_,_,0,aq.trans (aQ.trans bJ),rfl,hRI,.chain aJ V8 (by rw [hn];exact QX) (by rw [hn];exact hz.symm) ai ai hkz rfl,hs.sb⟩
    ·refine .skip (nB (nT ?_));exact ⟨(k+1,v50),aW,⟨by
      dsimp only;have:k+1≠pd:=fun e=>w8 (congrArg (Nat.cast:Nat→Int) (show sq st.by_ z (k+1)=z by rw [e];exact YR))
      omega,en50,by rw [AP];simpa [Is] using eb,hs.sb⟩,by dsimp only;omega⟩
structure Lf(s:cM)(x:List Int):Prop where
 len:x.length=s.n
 zero:gi x 0=0
 free:∀v<s.n,-1000000000≤gi x v∧gi x v≤1000000000
 DN:iP s.da (gi x)
theorem oX{w:World}{v:Value}{s:cM}(hs:St H w σ)(hr:RSy H v s):
  Z4 147 [v] w fun u w'=>∃H1 vt e,HLe H H1∧u= .tuple #[vt,I e]∧((s.check≠0∧e=s.check∧vt= .slice none 0 0)∨(s.Ok∧¬s.Sound∧e=23∧vt= .slice none 0 0)∨(s.Ok∧s.Sound∧e=0∧∃rs,RT H1 vt rs∧Sq s.n rs∧mY s.n s.da (gt rs)))∧St H1 w' σ:=by
 obtain ⟨ul,rfl,hl⟩:=hr;obtain ⟨al,cl,rfl⟩:=RL.shape hl;refine Cl.o func147 ntmps147 ag1 ?_;refine .ae (.bx hs fun b1 w hs=>?_);refine .z zg (.zn zg (.ae (.y hs (zls [_,_] cf bg) (.o (.call call206 rfl (wV (s:=s) hs ⟨_,rfl,hl⟩) ?_)))));rintro _ w ⟨rfl,hs⟩;refine .zn zg (.seq (.ae (.z zm (.zn ez (.dz rfl (fun mW=>?_) (fun mW=>?_))))))
 ·exact .ae (.z zm (.z zg (.zn zg (.ret (rT (Fin.jr results147 rfl rfl ⟨H,_,_,HLe.refl H,rfl,.inl ⟨mW,rfl,rfl⟩,hs.out⟩))))))
 ·refine .skip (nT (.ae (.y hs (zls [_,_] cf bg) ?_)));have aJ:s.Ok:=s.cO.1 (by simpa using mW);have IA:=aJ.m1;refine .o (.call call207 rfl (yn (s:=s) hs ⟨_,rfl,hl⟩ aJ) ?_);rintro v12 w ⟨H1,rs,aq,AS,Q6,P9,hs⟩;obtain ⟨at',ct,rfl⟩:=AS.shape;refine .zn zg (.seq (.ae (.z zm (.o (.call call208 rfl (wU hs AS Q6 (by simp only [cM.n];omega)) ?_)))));rintro _ w ⟨b,rfl,hb,hs⟩;have Uz:=hb.trans (G9 aJ P9).symm;refine .zn ia (.cond rfl (fun gM=>?_) (fun gM=>?_))
  ·exact .ae (.z zg (.zn zg (.ret (rT (Fin.jr results147 rfl rfl ⟨H1,_,_,aq,rfl,.inr (.inl ⟨aJ,fun h=>by simp [Uz.2 h] at gM,rfl,rfl⟩),hs.out⟩)))))
  ·exact .skip (nT (.ae (.z zm (.z zg (.zn zg (.ret (Fin.jr results147 rfl rfl ⟨H1,_,_,aq,rfl,.inr (.inr ⟨aJ,Uz.1 (by simpa using gM),rfl,rs,AS,Q6,P9⟩),hs.out⟩)))))))
inductive U0(s:cM)(x:List Int):Int→Prop
 |bad (h:s.check≠0):U0 s x s.check
 |off (h:s.Ok) (h1:¬Lf s x):U0 s x 25
 |ok (h:s.Ok) (h1:Lf s x):U0 s x 0
theorem Cp{w:World}{v:Value}{ls:List Int}{q:Int→Prop}(hs:St H w σ)(hr:RI H v ls)
  (hc:∀args w,(callFunc g args).run Tryz.prog w= .ok (.enter g args) w) (hp:∀w l,St H w σ→Z4 g ([I l]++cap) w fun u w'=>∃b,u= .bool b∧(b=true↔q l)∧St H w' σ):
  Z4 228 [v,.func (.func g) #[] cap.toArray] w fun u w'=>∃i,u=I i∧(0≤i↔∃p∈ls,q p)∧St H w' σ:=by
 obtain ⟨a,c,rfl⟩:=RI.shape hr;have hl:=(RI.len hr).2.2;refine Cl.o func228 ntmps228 ag2 ?_;refine .ae (.zn zg (.seq (.ae (.z zm (.z (de af) (.zn zm (.for (N:=ls.length) (J:=fun k fr w=>fr=[(1,.func (.func g) #[] cap.toArray),(0,.slice a ls.length c)]∧St H w σ∧∀j<k,∀l,ls[j]? =some l→¬q l) ai ?_ ?_ ?_)))))))
 ·exact .mk ⟨rfl,hs,fun j hj=>by omega⟩
 ·rintro k fr w hk ⟨rfl,hs,fV⟩;obtain ⟨l,hl⟩:=nth hk;refine .block (.ae (.z zm (.zn zg (.ae (.z zm (.z zm (.z zm ?_)))))));first|(refine .ixv hs af ak ?_;intro ka o14 js)|refine .z (zix af ak) ?_
  refine .y hs (zld aj) (.o (.qB (first:=[]) rfl rfl hc (hp _ _ hs) ?_));rintro _ w ⟨ui,rfl,vF,hs⟩;refine .nil (.cond rfl (fun dN=>?_) (fun dN=>?_))
  ·exact .ae (.z zm (.zn zg (.ret (rB (rT (rB (rT (Fin.bw Nv rfl ⟨_,rfl,⟨fun _=>⟨l,List.mem_of_getElem? hl,vF.1 dN⟩,fun _=>by omega⟩,hs⟩))))))))
  ·exact .skip (nB (nT (.mk ⟨rfl,hs,fY fV hl (fun h=>by rw [vF.2 h] at dN;cases dN)⟩)))
 ·rintro fr w ⟨rfl,hs,fV⟩;refine nT (.ae (.zn zg (.ret (Fin.bw Nv rfl ?_))));exact ⟨_,rfl,⟨fun h=>by omega,fun ⟨p,h1,h2⟩=>by
   obtain ⟨j,hj⟩:=List.getElem?_of_mem h1;exact (fV j (List.getElem?_eq_some_iff.1 hj).1 p hj h2).elim⟩,hs⟩
theorem xm{w:World}{v:Value}{ls:List Int}{q:Int→Prop}(hs:St H w σ)(hr:RI H v ls)
  (hc:∀args w,(callFunc g args).run Tryz.prog w= .ok (.enter g args) w) (hp:∀w l,St H w σ→Z4 g ([I l]++cap) w fun u w'=>∃b,u= .bool b∧(b=true↔q l)∧St H w' σ):
  Z4 185 [v,.func (.func g) #[] cap.toArray] w fun u w'=>∃b,u= .bool b∧(b=true↔∃p∈ls,q p)∧St H w' σ:=by
 refine Cl.o func185 ntmps185 ag2 ?_;refine .ae (.zn zg (.ae (.z zm (.z zm (.o (.call call228 rfl (Cp hs hr hc hp) ?_))))));rintro _ w ⟨i,rfl,hi,hs⟩;exact .z Ct (.zn zg (.ret (Fin.bw results185 rfl ⟨_,rfl,by simp only [decide_eq_true_eq];exact hi,hs⟩)))
theorem ub{w:World}{n:Int}(hs:St H w σ):Z4 198 [I n] w fun v w'=>∃b,v= .bool b∧(b=true↔¬(-1000000000≤n∧n≤1000000000))∧St H w' σ:=by
 refine Cl.o func198 ntmps198 ag1 ?_;refine .ae (.zn zg (.ae (.z zm (.o (.call NA rfl (ee hs) ?_)))));rintro _ w ⟨rfl,hs⟩;exact .z ia (.zn zg (.ret (Fin.bw results198 rfl ⟨_,rfl,by simp;omega,hs⟩)))
theorem qH{w:World}{v:Value}{s:cM}{x:List Int}(hs:St H w σ)(hr:RSy H v s)(hx:RI H vx x):
  Z4 134 [v,vx] w fun u w'=>∃e,u=I e∧U0 s x e∧St H w' σ:=by
 obtain ⟨ul,rfl,hl⟩:=hr;obtain ⟨al,cl,rfl⟩:=RL.shape hl;obtain ⟨ax,cx,rfl⟩:=RI.shape hx;refine Cl.o func134 ntmps134 ag2 ?_;refine .ae (.bx hs fun b2 w hs=>?_);refine .zn zg (.seq (.ae (.y hs (zls [_,_] cf bg) (.o (.call call197 rfl (jN (s:=s) hs ⟨_,rfl,hl⟩) ?_)))));rintro _ w ⟨rfl,hs⟩;refine .zn zg (.ae (.z zm (.zn ez ?_)))
 skip
 refine (.dz rfl (fun mX=>?_) (fun mX=>?_))
 ·exact .ae (.z zm (.zn zg (.ret (rT (Fin.bw Ny rfl ⟨_,rfl,.bad mX,hs.out⟩)))))
 ·refine .skip (nT (.seq (.ae ?_)));have aJ:s.Ok:=s.cO.1 (by simpa using mX);have E3:=aJ.m0;have IA:=aJ.m1;have yK:=aJ.len;have Cy:(s.n:Int)=s.many+1:=by simp only [cM.n];omega
  refine .z zm (.z (de af) (.z (zfa bU) (.y hs (zld aj) (.z cD (.z ez (.z zm (.Eo (t':=19) rfl (fun BR=>?_) (fun BR=>?_))))))))
  ·refine .Fs 4 6 false (.z zpT (.z zm (.Fs 2 12 false (.zn zpT (.cT (.ae (.zn zg (.ret (rT (Fin.bw Ny rfl ?_))))))))));first
    |exact ⟨_,rfl,.ok aJ ⟨ai,by first|omega|(simpa using yX),fun v hv=>qj v ai,fw.2 fun y hy=>by
      obtain ⟨i,hi⟩:=List.getElem?_of_mem hy;exact h1 i (List.getElem?_eq_some_iff.1 hi).1 y hi⟩,hs.out⟩
    |exact ⟨_,rfl,.off aJ (fun h=>by have:=h.len;omega),hs.out⟩
    |exact ⟨_,rfl,.off aJ (fun h=>by have:=h.zero;first|omega|(simp at yX;omega)),hs.out⟩
    |exact ⟨_,rfl,.off aJ (fun h=>by
      obtain ⟨p,h1,h2⟩:=tM.1 jS;obtain ⟨i,hi⟩:=List.getElem?_of_mem h1;have sW:=(List.getElem?_eq_some_iff.1 hi).1;have:=bL sW;rw [hi] at this;cases this
      exact h2 (h.free i (by have:=h.len;omega))),hs.out⟩
    |exact ⟨_,rfl,.off aJ (fun h=>by
      have h8:=fw.1 h.DN y (List.mem_of_getElem? hy);omega),hs.out⟩
  ·refine .T (.z zm (.T (.ixX (enc:=fun x=>[I x]) hs hx rfl rfl af ak (bL (l:=x) (i:=0) ai) rfl ?_)));intro X0 o21 jU;replace jU:=bN.one jU;refine .T (.y hs (zld aj) (.T (.z ez (.z zpF (.z zm (.Eo (t':=25) rfl (fun yX=>?_) (fun yX=>?_)))))))
   ·refine .Fs 2 12 false (.zn zpT (.cT (.ae (.zn zg (.ret (rT (Fin.bw Ny rfl ?_)))))));first
     |exact ⟨_,rfl,.ok aJ ⟨ai,by first|omega|(simpa using yX),fun v hv=>qj v ai,fw.2 fun y hy=>by
       obtain ⟨i,hi⟩:=List.getElem?_of_mem hy;exact h1 i (List.getElem?_eq_some_iff.1 hi).1 y hi⟩,hs.out⟩
     |exact ⟨_,rfl,.off aJ (fun h=>by have:=h.len;omega),hs.out⟩
     |exact ⟨_,rfl,.off aJ (fun h=>by have:=h.zero;first|omega|(simp at yX;omega)),hs.out⟩
     |exact ⟨_,rfl,.off aJ (fun h=>by
       obtain ⟨p,h1,h2⟩:=tM.1 jS;obtain ⟨i,hi⟩:=List.getElem?_of_mem h1;have sW:=(List.getElem?_eq_some_iff.1 hi).1;have:=bL sW;rw [hi] at this;cases this
       exact h2 (h.free i (by have:=h.len;omega))),hs.out⟩
     |exact ⟨_,rfl,.off aJ (fun h=>by
       have h8:=fw.1 h.DN y (List.mem_of_getElem? hy);omega),hs.out⟩
   ·refine .T (.z zm (.T (.o (.call call185 rfl (xm (q:=fun n=>¬(-1000000000≤n∧n≤1000000000)) (cap:=[]) hs hx call198 (fun w n hs=>ub hs)) ?_))));rintro _ w ⟨A3,rfl,tM,hs⟩;refine .zn zpF (.cond rfl (fun jS=>?_) (fun jS=>?_))
    ·refine .ae (.zn zg (.ret (rT (Fin.bw Ny rfl ?_))));first
      |exact ⟨_,rfl,.ok aJ ⟨ai,by first|omega|(simpa using yX),fun v hv=>qj v ai,fw.2 fun y hy=>by
        obtain ⟨i,hi⟩:=List.getElem?_of_mem hy;exact h1 i (List.getElem?_eq_some_iff.1 hi).1 y hi⟩,hs.out⟩
      |exact ⟨_,rfl,.off aJ (fun h=>by have:=h.len;omega),hs.out⟩
      |exact ⟨_,rfl,.off aJ (fun h=>by have:=h.zero;first|omega|(simp at yX;omega)),hs.out⟩
      |exact ⟨_,rfl,.off aJ (fun h=>by
        obtain ⟨p,h1,h2⟩:=tM.1 jS;obtain ⟨i,hi⟩:=List.getElem?_of_mem h1;have sW:=(List.getElem?_eq_some_iff.1 hi).1;have:=bL sW;rw [hi] at this;cases this
        exact h2 (h.free i (by have:=h.len;omega))),hs.out⟩
      |exact ⟨_,rfl,.off aJ (fun h=>by
        have h8:=fw.1 h.DN y (List.mem_of_getElem? hy);omega),hs.out⟩
    ·refine .skip (nT (.seq (.ae (.z (zfa bM) (.y hs (zld eL) (.z (de aU) (.zn zm (.for (N:=s.cJ.length) (J:=fun k fr w=>fr=[(30,.slice al s.cJ.length cl),(1,.slice ax x.length cx)]∧(∀i<k,∀y,s.cJ[i]? =some y→gi x y.B.toNat≤gi x y.A.toNat+y.M)∧St H w (.blk b2 [I s.many,.slice al s.cJ.length cl]::σ)) ai ?_ ?_ ?_))))))))
     ·exact .mk ⟨rfl,fun i hi=>by omega,hs⟩
     ·have qj:∀v<x.length,-1000000000≤gi x v∧gi x v≤1000000000:=fun v hv=>by
       apply Classical.byContradiction;intro h;have:=tM.2 ⟨gi x v,List.mem_of_getElem? (bL hv),h⟩;subst this;simp at jS
      rintro k fr w hk ⟨rfl,h1,hs⟩;obtain ⟨y,hy⟩:=nth hk;obtain ⟨⟨y1,y2⟩,⟨y3,y4⟩,y5,y6,-⟩:=aJ.lim y (List.mem_of_getElem? hy);have z1:=qj y.B.toNat ai;have z2:=qj y.A.toNat ai;refine .block (.ae (.ixX (enc:=Lim.c) hs hl rfl rfl aU bO hy rfl ?_));intro Rh o34 lP;refine .q hs (bH (vs:=y.c) rfl kE bO lP) (.o (.alloc hs fQ rfl fun b7 w hs=>?_));refine .o (.aE (vs:=y.c) hs rfl rfl bO fun w hs=>?_);refine .nil (.seq (.draw mix rfl hs fun w hs=>?_));refine .zw 0 rfl zm ?_;refine .z 1 rfl (zfa ew) ?_;refine .y 2 rfl hs aj ?_;refine .ixX (enc:=fun x=>[I x]) (i:=3) hs rfl az .none hx rfl rfl af ak (bL (l:=x) (i:=y.B.toNat) ai) ai ?_;intro US o39 od;replace od:=bN.one od;refine .r (i:=4) hs rfl az .none (aR rfl aj od) ?_;refine .zw 5 rfl zm ?_;refine .z 6 rfl (zfa dR) ?_;refine .y 7 rfl hs aj ?_;refine .ixX (enc:=fun x=>[I x]) (i:=8) hs rfl az .none hx rfl rfl af ak (bL (l:=x) (i:=y.A.toNat) ai) ai ?_;intro b44 o44 Dt;replace Dt:=bN.one Dt;refine .r (i:=9) hs rfl az .none (aR rfl aj Dt) ?_;refine .zw 10 rfl iX ?_;refine .z 11 rfl (zfa fE) ?_;refine .y 12 rfl hs aj ?_;refine .z 13 rfl nJ ?_;refine .D hs ?_;refine (.cg rfl (fun w9=>?_) (fun w9=>?_))
      ·refine .ae (.zn zg (.ret (rB (rT (rB (rT (Fin.bw Ny rfl ?_)))))));first
        |exact ⟨_,rfl,.ok aJ ⟨ai,by first|omega|(simpa using yX),fun v hv=>qj v ai,fw.2 fun y hy=>by
          obtain ⟨i,hi⟩:=List.getElem?_of_mem hy;exact h1 i (List.getElem?_eq_some_iff.1 hi).1 y hi⟩,hs.out⟩
        |exact ⟨_,rfl,.off aJ (fun h=>by have:=h.len;omega),hs.out⟩
        |exact ⟨_,rfl,.off aJ (fun h=>by have:=h.zero;first|omega|(simp at yX;omega)),hs.out⟩
        |exact ⟨_,rfl,.off aJ (fun h=>by
          obtain ⟨p,h1,h2⟩:=tM.1 jS;obtain ⟨i,hi⟩:=List.getElem?_of_mem h1;have sW:=(List.getElem?_eq_some_iff.1 hi).1;have:=bL sW;rw [hi] at this;cases this
          exact h2 (h.free i (by have:=h.len;omega))),hs.out⟩
        |exact ⟨_,rfl,.off aJ (fun h=>by
          have h8:=fw.1 h.DN y (List.mem_of_getElem? hy);omega),hs.out⟩
      ·refine .skip (nB (nT ?_));exact .mk ⟨rfl,fun i hi z hz=>by
        by_cases e:i=k
        ·subst e;rw [hy] at hz;cases hz;omega
        ·exact h1 i ai z hz,hs.out⟩
     ·have qj:∀v<x.length,-1000000000≤gi x v∧gi x v≤1000000000:=fun v hv=>by
       apply Classical.byContradiction;intro h;have:=tM.2 ⟨gi x v,List.mem_of_getElem? (bL hv),h⟩;subst this;simp at jS
      rintro fr w ⟨rfl,h1,hs⟩;refine nT (.ae (.zn zg (.ret (Fin.bw Ny rfl ?_))));first
       |exact ⟨_,rfl,.ok aJ ⟨ai,by first|omega|(simpa using yX),fun v hv=>qj v ai,fw.2 fun y hy=>by
         obtain ⟨i,hi⟩:=List.getElem?_of_mem hy;exact h1 i (List.getElem?_eq_some_iff.1 hi).1 y hi⟩,hs.out⟩
       |exact ⟨_,rfl,.off aJ (fun h=>by have:=h.len;omega),hs.out⟩
       |exact ⟨_,rfl,.off aJ (fun h=>by have:=h.zero;first|omega|(simp at yX;omega)),hs.out⟩
       |exact ⟨_,rfl,.off aJ (fun h=>by
         obtain ⟨p,h1,h2⟩:=tM.1 jS;obtain ⟨i,hi⟩:=List.getElem?_of_mem h1;have sW:=(List.getElem?_eq_some_iff.1 hi).1;have:=bL sW;rw [hi] at this;cases this
         exact h2 (h.free i (by have:=h.len;omega))),hs.out⟩
       |exact ⟨_,rfl,.off aJ (fun h=>by
         have h8:=fw.1 h.DN y (List.mem_of_getElem? hy);omega),hs.out⟩
end Go.Proofs.YteajddicacjkhaaGreat
namespace Go.Proofs
open Go.Shelf
def Tryz.EV:Go.Shelf.Ren:=⟨fun|189=>303|125=>311|257=>310|128=>323|129=>324|294=>314|295=>315|296=>316|297=>317|298=>318|299=>319|216=>320|300=>321|301=>322|328=>325|329=>326|330=>327|331=>328|332=>329|215=>330|343=>331|n=>n,fun|28=>34|3=>3|46=>260|0=>0|51=>340|53=>343|4=>4|183=>348|182=>347|131=>165|5=>5|9=>9|218=>354|222=>358|228=>360|229=>293|n=>n,fun|n=>n⟩
theorem Tryz.JH:Go.Proofs.Lays.n189 Tryz.prog Tryz.EV:={
 mixed:=by kernel_rfl
 f125:=Tryz.func311.trans (congrArg some (by kernel_rfl))
 f128:=Tryz.func323.trans (congrArg some (by kernel_rfl))
 f129:=Tryz.func324.trans (congrArg some (by kernel_rfl))
 f189:=Tryz.func303.trans (congrArg some (by kernel_rfl))
 f215:=Tryz.func330.trans (congrArg some (by kernel_rfl))
 f216:=Tryz.func320.trans (congrArg some (by kernel_rfl))
 f257:=Tryz.func310.trans (congrArg some (by kernel_rfl))
 f294:=Tryz.func314.trans (congrArg some (by kernel_rfl))
 f295:=Tryz.func315.trans (congrArg some (by kernel_rfl))
 f296:=Tryz.func316.trans (congrArg some (by kernel_rfl))
 f297:=Tryz.func317.trans (congrArg some (by kernel_rfl))
 f298:=Tryz.func318.trans (congrArg some (by kernel_rfl))
 f299:=Tryz.func319.trans (congrArg some (by kernel_rfl))
 f300:=Tryz.func321.trans (congrArg some (by kernel_rfl))
 f301:=Tryz.func322.trans (congrArg some (by kernel_rfl))
 f328:=Tryz.func325.trans (congrArg some (by kernel_rfl))
 f329:=Tryz.func326.trans (congrArg some (by kernel_rfl))
 f330:=Tryz.func327.trans (congrArg some (by kernel_rfl))
 f331:=Tryz.func328.trans (congrArg some (by kernel_rfl))
 f332:=Tryz.func329.trans (congrArg some (by kernel_rfl))
 f343:=Tryz.func331.trans (congrArg some (by kernel_rfl))
 t0:=Tryz.underlying0
 a0:=Tryz.isAgg0
 z0:=Tryz.sizeOf0
 v0:=Tryz.zeroValue0
 t3:=Tryz.underlying3
 a3:=Tryz.isAgg3
 z3:=Tryz.sizeOf3
 v3:=Tryz.zeroValue3
 t4:=Tryz.underlying4
 a4:=Tryz.isAgg4
 z4:=Tryz.sizeOf4
 v4:=Tryz.zeroValue4
 t5:=Tryz.underlying5
 a5:=Tryz.isAgg5
 z5:=Tryz.sizeOf5
 v5:=Tryz.zeroValue5
 t9:=Tryz.underlying9
 a9:=Tryz.isAgg9
 z9:=Tryz.sizeOf9
 v9:=Tryz.zeroValue9
 t28:=Tryz.underlying34
 a28:=Tryz.isAgg34
 z28:=Tryz.sizeOf34
 v28:=Tryz.zeroValue34
 t46:=Tryz.underlying260
 a46:=Tryz.isAgg260
 z46:=Tryz.sizeOf260
 v46:=Tryz.zeroValue260
 t51:=Tryz.underlying340
 a51:=Tryz.isAgg340
 z51:=Tryz.sizeOf340
 v51:=Tryz.zeroValue340
 t53:=Tryz.underlying343
 a53:=Tryz.isAgg343
 z53:=Tryz.sizeOf343
 v53:=Tryz.zeroValue343
 t131:=Tryz.underlying165
 a131:=Tryz.isAgg165
 z131:=Tryz.sizeOf165
 v131:=Tryz.zeroValue165
 t182:=Tryz.underlying347
 a182:=Tryz.isAgg347
 z182:=Tryz.sizeOf347
 v182:=Tryz.zeroValue347
 t183:=Tryz.underlying348
 a183:=Tryz.isAgg348
 z183:=Tryz.sizeOf348
 v183:=Tryz.zeroValue348
 t218:=Tryz.underlying354
 a218:=Tryz.isAgg354
 z218:=Tryz.sizeOf354
 v218:=Tryz.zeroValue354
 t222:=Tryz.underlying358
 a222:=Tryz.isAgg358
 z222:=Tryz.sizeOf358
 v222:=Tryz.zeroValue358
 t228:=Tryz.underlying360
 a228:=Tryz.isAgg360
 z228:=Tryz.sizeOf360
 v228:=Tryz.zeroValue360
 t229:=Tryz.underlying293
 a229:=Tryz.isAgg293
 z229:=Tryz.sizeOf293
 v229:=Tryz.zeroValue293}
def Tryz.Db:Go.Shelf.Ren:=⟨fun|20=>304|n=>n,fun|22=>34|3=>3|4=>4|0=>0|n=>n,fun|n=>n⟩
theorem Tryz.Gh:Go.Proofs.Lays2.n20 Tryz.prog Tryz.Db:={
 mixed:=by kernel_rfl
 f20:=Tryz.func304.trans (congrArg some (by kernel_rfl))
 t0:=Tryz.underlying0
 a0:=Tryz.isAgg0
 z0:=Tryz.sizeOf0
 v0:=Tryz.zeroValue0
 t3:=Tryz.underlying3
 a3:=Tryz.isAgg3
 z3:=Tryz.sizeOf3
 v3:=Tryz.zeroValue3
 t4:=Tryz.underlying4
 a4:=Tryz.isAgg4
 z4:=Tryz.sizeOf4
 v4:=Tryz.zeroValue4
 t22:=Tryz.underlying34
 a22:=Tryz.isAgg34
 z22:=Tryz.sizeOf34
 v22:=Tryz.zeroValue34
 i3:=by kernel_rfl}
end Go.Proofs
namespace Go.Proofs.YteajddicacjkhaaGreat
open Go.Sort Go.RowKit
theorem LM(blk off cap:Nat)(zs:List Int)(w:World)(hH:Holds (Value.int .i64) w blk off zs.toArray)(WY:blk<w.heap.size)(nZ:zs.length<4611686018427387904):
  Calls Tryz.prog 303 #[.slice (some ⟨blk,off,none⟩) zs.length cap] w fun e w'=>e= .returned (.tuple #[])∧∃n os,w'=grow (putRow (Value.int .i64) (Sort.ahead w n) blk off (zs.mergeSort fun x y=>decide (x≤y)).toArray) os:=
 Any.slices_Sort_int Tryz.JH blk off cap zs w hH WY nZ
theorem Bn(p:Option Addr)(cap:Nat)(w:World):Calls Tryz.prog 303 #[.slice p 0 cap] w fun e w'=>e= .returned (.tuple #[])∧w'=w:=
 Any.slices_Sort_int_none Tryz.JH p cap w
theorem EA(blk off cap:Nat)(zs:List Int)(w:World)(hH:Holds (Value.int .i64) w blk off zs.toArray)(nZ:zs.length≤9223372036854775807)(yP:zs.length≤cap):
  Calls Tryz.prog 304 #[.slice (some ⟨blk,off,none⟩) zs.length cap] w fun e w'=>e= .returned (.slice (some ⟨blk,off,none⟩) (Lib.compact zs).length cap)∧∃q,w'=putRow (Value.int .i64) (Sort.ahead w q) blk off (Lib.compact zs++List.replicate (zs.length - (Lib.compact zs).length) 0).toArray:=
 Any.slices_Compact_int Tryz.Gh blk off cap zs w hH nZ yP
theorem wM(p:Option Addr)(cap:Nat)(w:World):Calls Tryz.prog 304 #[.slice p 0 cap] w fun e w'=>e= .returned (.slice p 0 cap)∧w'=w:=
 Any.slices_Compact_int_empty Tryz.Gh p cap w
end Go.Proofs.YteajddicacjkhaaGreat
namespace Go.Proofs.YteajddicacjkhaaGreat
open Go.MW Tryz
variable{H:bG}{σ:List Ent}{a0 a1 a2 b x most a hi lo f d e:Int}{l:Lns}{ls:List Lim}{g k bf bt bl cl i bm:Nat}{cap sp:List Value}{s:Srv}{xs ts lf ws L X Y ks dm:List Int}{en:Ent}{vl vt vp vw vb vx v1 v2 bV bS vr vc vh vs v5 v4 fJ vn vg:Value}{m:Rng}{us:List Use}{t:TD}{rows:List (List Int)}{high:Bool}{P:Program}{ss:List Ssn}
theorem wO{w:World}{v:Value}{ls:List Int}(hs:St H w σ)(hr:RI H v ls):
  Z4 305 [v,I x] w fun u w'=>∃i,u=I i∧(0≤i↔x∈ls)∧St H w' σ:=by
 obtain ⟨a,c,rfl⟩:=RI.shape hr;have hl:=(RI.len hr).2.2;refine Cl.o func305 ntmps305 ag2 ?_;refine .ae (.zn zg (.seq (.ae (.z zm (.z (de af) (.zn zm (.for (N:=ls.length) (J:=fun k fr w=>fr=[(1,I x),(0,.slice a ls.length c)]∧St H w σ∧∀j<k,∀y,ls[j]? =some y→¬x=y) ai ?_ ?_ ?_)))))))
 ·exact .mk ⟨rfl,hs,fun j hj=>by omega⟩
 ·rintro k fr w hk ⟨rfl,hs,fV⟩;obtain ⟨y,hy⟩:=nth hk;refine .block (.ae (.z zm (.zn zg (.ae (.z zm (.z zm (.z zm (.ixY hs hr rfl rfl af ak hy rfl ?_))))))));intro ka o14 js;refine .q hs (aR rfl aj js) (.zn ik (.cg rfl (fun dN=>?_) (fun dN=>?_)))
  ·exact .ae (.z zm (.zn zg (.ret (rB (rT (rB (rT (Fin.bw results305 rfl ⟨_,rfl,⟨fun _=>by rw [dN];exact List.mem_of_getElem? hy,fun _=>by omega⟩,hs⟩))))))))
  ·exact .skip (nB (nT (.mk ⟨rfl,hs,fY fV hy dN⟩)))
 ·rintro fr w ⟨rfl,hs,fV⟩;refine nT (.ae (.zn zg (.ret (Fin.bw results305 rfl ?_))));exact ⟨_,rfl,⟨fun h=>by omega,fun h=>by
   obtain ⟨j,hj⟩:=List.getElem?_of_mem h;exact (fV j (List.getElem?_eq_some_iff.1 hj).1 x hj rfl).elim⟩,hs⟩
theorem sc{w:World}{v:Value}{ls:List Int}(hs:St H w σ)(hr:RI H v ls):
  Z4 294 [v,I x] w fun u w'=>u= .bool (decide (x∈ls))∧St H w' σ:=by
 refine Cl.o func294 ntmps294 ag2 ?_;refine .ae (.zn zg (.ae (.z zm (.z zm (.o (.call call305 rfl (wO hs hr) ?_))))));rintro _ w ⟨i,rfl,hi,hs⟩;exact .z Ct (.zn zg (.ret (Fin.bw results294 rfl ⟨by simp only [hi],hs⟩)))
set_option maxHeartbeats 1000000 in
theorem ze{w:World}{v:Value}{s:cM}(q:Nat→Lim→Bool)(hs:St H w σ)(hr:RSy H v s)(hlen:s.cJ.length≤4398046510976)(hc:∀args w,(callFunc g args).run Tryz.prog w= .ok (.enter g args) w)
  (hp:∀w σ (k:Nat) (l:Lim),s.cJ[k]? =some l→St H w σ→Z4 g ([I k,.agg l.c.toArray]++cap) w fun u w'=>u= .bool (q k l)∧St H w' σ):
  Z4 292 [v,.func (.func g) #[] cap.toArray] w fun u w'=>∃H1,HLe H H1∧RSy H1 u ⟨s.many,l5 q s.cJ s.cJ.length⟩∧St H1 w' σ:=by
 obtain ⟨ul,rfl,hl⟩:=hr;obtain ⟨al,cl,rfl⟩:=RL.shape hl;refine Cl.o func292 ntmps292 ag2 ?_;refine .ae (.bx hs fun b2 w hs=>?_);refine .o (.alloc hs gZ rfl fun b4 w hs=>?_);refine .nil (.ae (.z (zfa bU) (.y hs (zld aj) (.z (zbd [_,_] nD) (.o (.alloc hs gZ rfl fun b5 w hs=>?_))))));refine .o (.aE (vs:=[_,_]) hs rfl rfl bg fun w hs=>?_);refine .nil (.seq (.ae (.z (zfa bM) (.y hs (zld eL) (.z (de aU) (.zn zm (.for (N:=s.cJ.length) (J:=fun k fr w=>fr=[(12,.slice al s.cJ.length cl),(1,.func (.func g) #[] cap.toArray),(5,Pt b5),(4,Pt b4)]∧∃vL en,cz 4 vL (iL (l5 q s.cJ k)) en∧St H w (.blk b5 [I s.many,vL]:: .blk b4 [I 0,.slice none 0 0]::en::σ)) ai ?_ ?_ ?_)))))))
 ·exact .mk ⟨rfl,_,_,.nil 4 none,hs.nul.sb⟩
 ·rintro k fr w hk ⟨rfl,vL,en,hO,hs⟩;obtain ⟨x,hx⟩:=nth (l:=s.cJ) hk;obtain ⟨aL,lL,cL,rfl,hL⟩:=hO.shape;have Iy:=oy q s.cJ k;refine .block (.ae (.z zm (.ixX hs hl rfl rfl aU bO hx rfl ?_)));intro GR o17 iy;refine .q hs (bH (vs:=x.c) rfl kE bO iy) (.o (.alloc hs fQ rfl fun b7 w hs=>?_));refine .z zg (.o (.aE (vs:=x.c) hs rfl rfl bO fun w hs=>?_));refine .nil (.ae (.z zm (.z zm (.y hs (zls [_,_,_,_] kE bO) (.o (.qB (first:=[]) (cap:=cap) rfl rfl hc (hp _ _ k x hx hs) ?_))))));rintro _ w ⟨rfl,hs⟩;refine .nil (.cond rfl (fun jc=>?_) (fun jc=>?_))
  ·refine .region (.z (zfa bM) (.y hs (zld eL) (.y hs (zls [_,_,_,_] kE bO) (.o (.buildSlice (cells:=x.c) hs ud rfl rfl fun TF w hs=>?_)))));refine .o (.append (ys:=x.c) hs cK rfl rfl hO (.own .here rfl rfl) (by simp [Lim.c,Value.oneCell']) (fun l h=>by rw [fj] at h;omega) ?_);intro v27 en27 w eb hs;obtain ⟨a27,l27,c27,rfl,h27⟩:=eb.shape;refine .z (zfa bM) (.o (.store hs rfl rfl sizeOf175 fun w hs=>?_));refine .nil (nB (nT ?_));have e:l5 q s.cJ (k+1)=l5 q s.cJ k++[x]:=by rw [so hx,if_pos jc]
   rw [←Ns,←jk,←e] at eb;exact .mk ⟨rfl,_,_,eb,hs.sb⟩
  ·refine .skip (nB (nT ?_));have e:l5 q s.cJ (k+1)=l5 q s.cJ k:=by rw [so hx,jc];simp
   exact .mk ⟨rfl,_,_,by rw [e];exact hO,hs.sb⟩
 ·rintro fr w ⟨rfl,vL,en,hO,hs⟩;obtain ⟨aL,lL,cL,rfl,hL⟩:=hO.shape;have Iy:=oy q s.cJ s.cJ.length;refine nT (.ae (.y hs (zls [_,_] cf bg) (.o (.aE (vs:=[_,_]) hs rfl rfl bg fun w hs=>?_))));refine .nil (.ret ?_);obtain ⟨H1,g1,r1,hs⟩:=cz.bZ (m:=4) (cs:=(l5 q s.cJ s.cJ.length).map Lim.c) hO (fun c hc=>by simp only [List.mem_map] at hc;obtain ⟨x,_,rfl⟩:=hc;rfl) ai (by rw [List.length_map];omega) hs eJ;exact Fin.hZ [] [] hs fun w hs=>⟨_,results1 results292 (cN (vs:=[_,_]) hs rfl cf bg),H1,g1,⟨_,rfl,r1⟩,hs.out⟩
theorem zf{w:World}{b:Nat}{i:Int}{l:Lim}{bs:List Int}(hs:St H w σ)(hb:Row H b [vb])(hr:RI H vb bs):
  Z4 293 [I i,.agg l.c.toArray,Pt b] w fun u w'=>u= .bool (!decide (l.S∈bs))∧St H w' σ:=by
 have Em:cellAt H b 0=some vb:=by rw [hb.cell];rfl
 refine Cl.o func293 ntmps293 ag3 ?_;refine .ae (.bx hs fun b4 w hs=>?_);refine .zn zg (.ae (.y hs (zld an) (.z (zfa kT) (.y hs (zld aj) (.o (.call call294 rfl (sc hs hr) ?_))))));rintro _ w ⟨rfl,hs⟩;exact .z ia (.zn zg (.ret (Fin.bw results293 rfl ⟨rfl,hs.out⟩)))
theorem tZ{w:World}{v:Value}{s:cM}{bs:List Int}(hs:St H w σ)(hr:RSy H v s)(hb:RI H vb bs)(hlen:s.cJ.length≤4398046510976):
  Z4 266 [v,vb] w fun u w'=>∃H1,HLe H H1∧RSy H1 u (s.wo bs)∧St H1 w' σ:=by
 obtain ⟨ul,rfl,hl⟩:=hr;obtain ⟨al,cl,rfl⟩:=RL.shape hl;obtain ⟨ab,cb,rfl⟩:=RI.shape hb;refine Cl.o func266 ntmps266 ag2 ?_;refine .ae (.bx hs fun b2 w hs=>?_);refine .bx hs fun b3 w hs=>?_
 refine .o (.alloc hs gZ rfl fun b4 w hs=>?_);refine .nil (.ae (.y hs (zls [_,_] cf bg) (.q hs (dp (f:=[]) (c:=[_]) rfl rfl) ?_)));obtain ⟨H1,aq,r3,hs⟩:=hs.bZ (b:=b3) eJ;refine .o (.call call292 rfl (ze (g:=293) (cap:=[Pt b3]) (s:=s) (fun _ l=> !decide (l.S∈bs)) hs ⟨_,rfl,hl.mono aq⟩ hlen call293 (fun w σ k l _ hs=>zf hs r3 (hb.mono aq))) ?_);rintro _ w ⟨H2,aQ,⟨u7,rfl,XC⟩,hs⟩;rw [Hr] at XC;obtain ⟨a7,c7,rfl⟩:=RL.shape XC;refine .o (.aE (vs:=[_,_]) hs rfl rfl bg fun w hs=>?_);exact .nil (.ret (Fin.hZ [] [] hs fun w hs=>⟨_,results1 results266 (cN (vs:=[_,_]) hs rfl cf bg),H2,aq.trans aQ,⟨_,rfl,XC⟩,hs.out⟩))
theorem ya{w:World}{b cap:Nat}(hs:St H w (.blk b (Is xs++sp)::σ))(hl:xs.length≤17592186044416):
  Z4 303 [.slice (some ⟨b,0,none⟩) xs.length cap] w fun u w'=>u= .tuple #[]∧St H w' (.blk b (Is (xs.mergeSort fun x y=>decide (x≤y))++sp)::σ):=
 (LM b 0 cap xs w hs.holds (hs.lt .here) ai).mono fun e w' ⟨he,m,os,hw⟩=>⟨_,he,rfl,by
  rw [hw];exact (hs.putRow (List.length_mergeSort _)).grow os⟩
theorem wN{w:World}{a:Option Addr}{cap:Nat}(hs:St H w σ):
  Z4 303 [.slice a 0 cap] w fun u w'=>u= .tuple #[]∧St H w' σ:=
 (Bn a cap w).mono fun e w' ⟨he,hw⟩=>⟨_,he,rfl,by rw [hw];exact hs⟩
theorem tc{w:World}{b cap:Nat}(hs:St H w (.blk b (Is xs++sp)::σ))(hl:xs.length≤17592186044416)(yP:xs.length≤cap):
  Z4 304 [.slice (some ⟨b,0,none⟩) xs.length cap] w fun u w'=>u= .slice (some ⟨b,0,none⟩) (Go.Lib.compact xs).length cap∧St H w' (.blk b (Is (Go.Lib.compact xs)++(Is (List.replicate (xs.length - (Go.Lib.compact xs).length) 0)++sp))::σ):=
 (EA b 0 cap xs w hs.holds ai yP).mono fun e w' ⟨he,m,hw⟩=>⟨_,he,rfl,by
  rw [hw];have h:=Go.Lib.compact_length_le xs;have:=hs.putRow (m:=m) (ys:=Go.Lib.compact xs++List.replicate (xs.length - (Go.Lib.compact xs).length) 0) (by simp;omega);have e2:Is (Go.Lib.compact xs++List.replicate (xs.length - (Go.Lib.compact xs).length) 0)=Is (Go.Lib.compact xs)++Is (List.replicate (xs.length - (Go.Lib.compact xs).length) 0):=List.map_append;rw [e2,List.append_assoc] at this;exact this⟩
theorem sd{w:World}{a:Option Addr}{cap:Nat}(hs:St H w σ):
  Z4 304 [.slice a 0 cap] w fun u w'=>u= .slice a 0 cap∧St H w' σ:=
 (wM a cap w).mono fun e w' ⟨he,hw⟩=>⟨_,he,rfl,by rw [hw];exact hs⟩
theorem Ah{w:World}{v:Value}(hs:St H w (en::σ))(hO:cz 1 v (Is xs) en)(hl:xs.length≤17592186044416):
  Z4 290 [v] w fun u w'=>∃L j9,cz 1 u (Is L) j9∧L.length≤xs.length∧mP (fun x=>x∈xs) L∧St H w' (j9::σ):=by
 rcases hO with ⟨a,rfl,h0,rfl⟩|⟨b,len,cap,sp,rfl,rfl,h3,h4,h5⟩
 ·have hx:xs=[]:=by simpa using h0
  subst hx;refine Cl.o func290 ntmps290 ag1 ?_;refine .ae (.zn zg (.ae (.z zm (.o (.call call303 rfl (wN hs) ?_)))));rintro _ w ⟨rfl,hs⟩;refine .nil (.ae (.z zm (.o (.call call304 rfl (sd hs) ?_))));rintro _ w ⟨rfl,hs⟩;exact .zn zg (.ret (Fin.bw results290 rfl ⟨[],_,.nil 1 a,bB,.nil bB,hs.out⟩))
 ·obtain rfl:len=xs.length:=by simpa using h3.symm
  refine Cl.o func290 ntmps290 ag1 ?_;refine .ae (.zn zg (.ae (.z zm (.o (.call call303 rfl (ya hs hl) ?_)))));rintro _ w ⟨rfl,hs⟩;refine .nil (.ae (.z zm ?_));have Sf:(xs.mergeSort fun x y=>decide (x≤y)).length=xs.length:=List.length_mergeSort _;rw [←Sf];refine .o (.call call304 rfl (tc hs ai ai) ?_);rintro _ w ⟨rfl,hs⟩;refine .zn zg (.ret (Fin.bw results290 rfl ?_));have ob:=Go.Lib.compact_length_le (xs.mergeSort fun x y=>decide (x≤y));have h4':xs.length+sp.length=cap:=by simpa using h4
  exact ⟨_,_,.inr ⟨b,_,cap,Is (List.replicate ((xs.mergeSort fun x y=>decide (x≤y)).length - (Go.Lib.compact (xs.mergeSort fun x y=>decide (x≤y))).length) 0)++sp,rfl,rfl,bB,by simp;omega,ai⟩,ai,EB,hs⟩
theorem nk{w:World}{v:Value}{s:cM}(hs:St H w σ)(hr:RSy H v s)(hlen:s.cJ.length≤4398046510976):
  Z4 264 [v] w fun u w'=>∃L en,cz 1 u (Is L) en∧L.length≤s.cJ.length∧mP (Rj s.cJ) L∧St H w' (en::σ):=by
 obtain ⟨ul,rfl,hl⟩:=hr;obtain ⟨al,cl,rfl⟩:=RL.shape hl;refine Cl.o func264 ntmps264 ag1 ?_;refine .ae (.bx hs fun b1 w hs=>?_);refine .zn zg (.ae (.zn zg (.seq (.ae (.z (zfa bM) (.y hs (zld eL) (.z (de aU) (.zn zm (.for (N:=s.cJ.length) (J:=fun k fr w=>∃v3 en,cz 1 v3 (Is ((s.cJ.take k).map Lim.S)) en∧fr=[(3,v3),(7,.slice al s.cJ.length cl)]∧St H w (en::σ)) ai ?_ ?_ ?_)))))))))
 ·exact .mk ⟨_,_,.nil 1 none,rfl,hs.nul.sb⟩
 ·rintro k fr w hk ⟨v3,en,hO,rfl,hs⟩;obtain ⟨x,hx⟩:=nth (l:=s.cJ) hk;obtain ⟨a3,l3,c3,rfl,h3⟩:=hO.shape;refine .block (.ae (.ixX hs hl rfl rfl aU bO hx rfl ?_));intro sO o11 mX;refine .q hs (bH (vs:=x.c) rfl kE bO mX) (.o (.alloc hs fQ rfl fun b5 w hs=>?_));refine .o (.aE (vs:=x.c) hs rfl rfl bO fun w hs=>?_);refine .nil (.region (.z zm (.z (zfa kT) (.y hs (zld aj) (.o (.buildSlice (cells:=[_]) hs cQ rfl rfl fun ui w hs=>?_))))));refine .o (.append (ys:=Is [x.S]) hs cI rfl rfl hO (.own .here rfl rfl) (jC _) (fun l' h=>by simp at h;omega) ?_);intro v17 en17 w eb hs;rw [←List.map_append] at eb;exact .zn zg (nB (nT (.mk ⟨_,_,by rw [dA hx,List.map_append];exact eb,rfl,hs.sb⟩)))
 ·rintro fr w ⟨v3,en,hO,rfl,hs⟩;rw [List.take_length] at hO;refine nT (.ae (.z zm (.o (.call call290 rfl (Ah hs hO (by rw [List.length_map];omega)) ?_))));rintro v20 w ⟨L,j9,Ti,hL,hR,hs⟩;rw [List.length_map] at hL;exact .zn zg (.ret (Fin.bw results264 rfl ⟨L,j9,Ti,hL,hR.congr fun x=>by simp [Rj],hs⟩))
theorem q9{w:World}{v:Value}(q:Int→Bool)(hs:St H w (en::σ))(hO:cz 1 v (Is xs) en)(hl:xs.length≤17592186044416)(hc:∀args w,(callFunc g args).run Tryz.prog w= .ok (.enter g args) w)
  (hp:∀H' w σ (n:Int),n∈xs→HLe H H'→St H' w σ→Z4 g ([I n]++cap) w fun u w'=>∃H1,HLe H' H1∧u= .bool (q n)∧St H1 w' σ):
  Z4 228 [v,.func (.func g) #[] cap.toArray] w fun u w'=>∃H1 i,HLe H H1∧u=I i∧((i= -1∧∀x∈xs,q x=false)∨(∃(k:Nat) (x:Int),i=k∧xs[k]? =some x∧q x=true∧∀j<k,∀y,xs[j]? =some y→q y=false))∧St H1 w' (en::σ):=by
 obtain ⟨a,c,rfl⟩:=hO.p5;refine Cl.o func228 ntmps228 ag2 ?_;refine .ae (.zn zg (.seq (.ae (.z zm (.z (de af) (.zn zm (.for (N:=xs.length) (J:=fun k fr w=>fr=[(1,.func (.func g) #[] cap.toArray),(0,.slice a xs.length c)]∧∃H1,HLe H H1∧(∀j<k,∀y,xs[j]? =some y→q y=false)∧St H1 w (en::σ)) ai ?_ ?_ ?_)))))))
 ·exact .mk ⟨rfl,H,HLe.refl H,fun j hj=>by omega,hs⟩
 ·rintro k fr w hk ⟨rfl,H1,aq,fV,hs⟩;have hx:=bL hk;obtain ⟨b,c',sp,hv,rfl,_⟩:=hO.blk ai;cases hv
  refine .block (.ae (.z zm (.zn zg (.ae (.z zm (.z zm (.z zm (.z (zix af ak) (.q hs (ja rfl aj (hv:=gz hk sp)) (.o (.qB (first:=[]) (cap:=cap) rfl rfl hc (hp _ _ _ (gi xs k) (List.mem_of_getElem? hx) aq hs) ?_)))))))))));rintro _ w ⟨H2,aQ,rfl,hs⟩;refine .nil (.cond rfl (fun dN=>?_) (fun dN=>?_))
  ·exact .ae (.z zm (.zn zg (.ret (rB (rT (rB (rT (Fin.bw Nv rfl ⟨H2,_,aq.trans aQ,rfl,.inr ⟨k,_,rfl,hx,dN,fV⟩,hs⟩))))))))
  ·exact .skip (nB (nT (.mk ⟨rfl,H2,aq.trans aQ,fY fV hx dN,hs⟩)))
 ·rintro fr w ⟨rfl,H1,aq,fV,hs⟩;refine nT (.ae (.zn zg (.ret (Fin.bw Nv rfl ?_))));exact ⟨H1,_,aq,rfl,.inl ⟨rfl,fun x hx=>by
   obtain ⟨j,hj⟩:=List.getElem?_of_mem hx;exact fV j (List.getElem?_eq_some_iff.1 hj).1 x hj⟩,hs⟩
set_option maxHeartbeats 1000000 in
theorem pz{w:World}{v:Value}(q:Int→Bool)(hs:St H w (en::σ))(hO:cz 1 v (Is xs) en)(hl:xs.length≤17592186044416)(hc:∀args w,(callFunc g args).run Tryz.prog w= .ok (.enter g args) w)
  (hp:∀H' w σ (n:Int),n∈xs→HLe H H'→St H' w σ→Z4 g ([I n]++cap) w fun u w'=>∃H1,HLe H' H1∧u= .bool (q n)∧St H1 w' σ):
  Z4 267 [v,.func (.func g) #[] cap.toArray] w fun u w'=>∃H1 j9,HLe H H1∧cz 1 u (Is (xs.filter fun x=> !q x)) j9∧St H1 w' (j9::σ):=by
 obtain ⟨a,c,rfl⟩:=hO.p5;refine Cl.o func267 ntmps267 ag2 ?_;refine .ae (.zn zg (.ae (.z zm (.z zm (.o (.call call228 rfl (q9 q hs hO hl hc hp) ?_))))));rintro _ w ⟨H1,i0,aq,rfl,iV,hs⟩;refine .zn zg (.seq (.ae (.z zm (.zn ik (.cg rfl (fun eT=>?_) (fun eT=>?_))))))
 ·refine .ae (.z zm (.zn zg (.ret (rT (Fin.bw results267 rfl ?_)))));have fV:∀x∈xs,q x=false:=by
   rcases iV with ⟨_,h⟩|⟨k,x,h,_⟩
   ·exact h
   ·omega
  have e:xs.filter (fun x=> !q x)=xs:=List.filter_eq_self.2 fun x hx=>by simp [fV x hx]
  exact ⟨H1,en,aq,by rw [e];exact hO,hs⟩
 ·refine .skip (nT (.seq (.ae (.z zm ?_))));obtain ⟨k0,x0,rfl,Cv,MJ,fV⟩:∃(k:Nat) (x:Int),i0=k∧xs[k]? =some x∧q x=true∧∀j<k,∀y,xs[j]? =some y→q y=false:=iV.resolve_left fun h=>eT h.1
  have Lo:=(List.getElem?_eq_some_iff.1 Cv).1;obtain ⟨b,c',sp,hv,rfl,Dz⟩:=hO.blk ai;cases hv
  refine .z cD (.zn zg (.block ?_));refine .loop (fun p:Nat×Nat=>⟨42,[],[(5,I (p.1:Int)),(6,I (p.2:Int)),(1,.func (.func g) #[] cap.toArray),(0,.slice (some ⟨b,0,none⟩) xs.length c)]⟩)
   (fun p w=>k0<p.2∧∃Y H1,HLe H H1∧FE q xs Y p.1 p.2∧St H1 w (.blk b (Is Y++sp)::σ))
   (fun p=>xs.length - p.2) (k0,k0+1) (.cons rfl (.dc rfl (by dsimp only;omega) aW))
   ⟨by dsimp only;omega,xs,H1,aq,.start Cv MJ fV,hs⟩ ?_
  clear hs aq iV;rintro ⟨i,j⟩ w ⟨Y3,Y,H1,aq,hD,hs⟩;dsimp only at Y3 hD ⊢;have UD:=hD.len;have ID:=hD.le;have wy:=hD.jl;have hilt:=hD.lt Cv MJ Y3;refine .seq (.ae (.z zm (.z zm (.z (de af) (.zn ju (.cg rfl (fun oG=>?_) (fun oG=>?_)))))))
  ·refine .skip (nT (.seq (.block (.ae (.z zm (.z zm ?_))))));have hj:j<Y.length:=by omega
   have hx:xs[j]? =some (gi Y j):=by rw [hD.rest j (Nat.le_refl _)];exact bL ai
   refine .z (zix af ak) (.q hs (ja rfl aj (hv:=gz hj sp)) (.zn zg (.ae (.z zm (.z zm (.o (.qB (first:=[]) (cap:=cap) rfl rfl hc (hp _ _ _ (gi Y j) (List.mem_of_getElem? hx) aq hs) ?_)))))));rintro _ w ⟨H2,aQ,rfl,hs⟩;refine .zn ia (.cond rfl (fun oF=>?_) (fun oF=>?_))
   ·refine .ae (.z zm (.z zm (.z zm (.z (zix af ak) (.o (.store hs rfl rfl ak ?_ .here (qI (show i<Y.length by omega) sp) (mS (show i<Y.length by omega) sp _)))))));intro w hs;exact .nil (.region (.z zm (.z cD (.zn zg (nB (nT (.region (.z zm (.z cD (.zn zg (nT ⟨(i+1,j+1),.dc rfl (by dsimp only;omega) (.dc rfl (by dsimp only;omega) aW),⟨by dsimp only;omega,_,H2,aq.trans aQ,hD.keep hx (by simpa using oF),hs⟩,by dsimp only;omega⟩)))))))))))
   ·exact .skip (nB (nT (.region (.z zm (.z cD (.zn zg (nT ⟨(i,j+1),.cons rfl (.dc rfl (by dsimp only;omega) aW),⟨by dsimp only;omega,_,H2,aq.trans aQ,hD.skip hx (by simpa using oF),hs⟩,by dsimp only;omega⟩)))))))
  ·refine .exit (xT (xT (xB (nT (.ae (.z zm (.z zm ?_)))))));obtain rfl:xs.length=j:=by omega
   refine .q hs (C2 (k:=i) rfl rfl af ak ai ai) ?_;rw [show 0+i*1=i by omega];refine .o (.Tv (c:=Is Y++sp) hs rfl af dw (by simp;omega) ?_);intro w hs;rw [hD.done sp] at hs;have sW:=hD.il;rw [List.take_length] at sW;exact .nil (.ae (.z zm (.z zm (.q hs (yu (k:=i) rfl rfl af ak ai) (.zn zg (.ret (Fin.bw results267 rfl ⟨H1,_,aq,.inr ⟨b,i,c,List.replicate (xs.length - i) (I 0)++sp,rfl,rfl,by simp [sW],by simp [←sW];omega,ai⟩,hs⟩)))))))
def Aj(L:List Int):List (List Value):=(List.range L.length).map fun j=>[I ((L.length - 1 - j:Nat):Int),I (gi L (L.length - 1 - j))]
theorem nm(L:List Int):(Aj L).length=L.length:=by simp [Aj]
theorem DZ{j:Nat}(h:j<(Aj L).length):(Aj L)[j]=[I ((L.length - 1 - j:Nat):Int),I (gi L (L.length - 1 - j))]:=by simp [Aj]
theorem pB{b:Nat}{v:Value}(hb:Row H b [v])(hr:RI H v L):Iter Tryz.prog 291 [Pt b] H (Aj L):=by
 intro l II Ix _ _ hy H0 FO σf w hle AT hs;obtain ⟨a,c,rfl⟩:=RI.shape hr;have hlen:=(RI.len hr).2.2;have Em:cellAt H0 b 0=some (.slice a L.length c):=cellAt.mono (hb.at 0) hle;refine Cl.o func291 ntmps291 ag2 ?_;refine .ae (.y hs (zld an) (.z (de af) (.z iX (.zn zg (.block ?_)))));refine .loop (fun j:Nat=>⟨19,[],[(3,I ((L.length:Int) - 1 - (j:Int))),(0,.func (.yield l) #[] #[]),(1,Pt b)]⟩)
  (fun j w=>j≤L.length∧∃H1 σb,HLe H H1∧HLe H0 H1∧II j H1 σb∧St H1 w (σb++σf)) (fun j=>L.length - j) 0 (.dc rfl bB aW)
  ⟨Nat.zero_le _,H0,FO,hle,HLe.refl _,AT,hs⟩ ?_
 clear hs AT;rintro j w ⟨hj,H1,σb,aq,eY,hI,hs⟩;have CB:cellAt H1 b 0=some (.slice a L.length c):=cellAt.mono Em eY;refine .seq (.ae (.z zm (.zn Ct (.cg rfl (fun CA=>?_) (fun CA=>?_)))))
 ·refine .skip (nT (.seq (.block (.ae (.z zm (.z zm (.y hs (zld an) (.z zm (.ixY hs (hr.mono aq) rfl rfl af ak (bL (l:=L) (i:=L.length - 1 - j) ai) ai ?_)))))))));intro Ch o15 gM;refine .q hs (aR rfl aj gM) ?_;have pQ:j<(Aj L).length:=by rw [nm];omega
  have zE:=hy j pQ H1 σb σf w aq hI hs;rw [DZ pQ,show ((L.length - 1 - j:Nat):Int)=(L.length:Int) - 1 - (j:Int) by omega] at zE;refine .o (.yield rfl rfl zE ?_);rintro v17 w ⟨H2,σ2,g1,hs,g3⟩;obtain ⟨bb,rfl,gT,gF⟩:=pT g3;refine .zn ia (.cond rfl (fun fW=>?_) (fun fW=>?_))
  ·exact .ret (rB (rT (rT (rB (Fin.QR results291 ⟨H2,σ2,eY.trans g1,hs,.inr (gF (by simpa using fW))⟩)))))
  ·exact .skip (nB (nT (.region (.z zm (.z iX (.zn zg (nT ⟨j+1,.dc rfl (by simp;omega) aW,⟨ai,H2,σ2,aq.trans g1,eY.trans g1,gT (by simpa using fW),hs⟩,ai⟩)))))))
 ·refine .exit (xT (xT (xB ?_)));obtain rfl:L.length=j:=by omega
  exact Fin.DS results291 ⟨H1,σb,eY,hs,.inl (by rw [nm];exact hI)⟩
theorem ra{w:World}{v:Value}(hs:St H w σ)(hr:RI H v L):
  Z4 265 [v] w fun u w'=>∃H1 b,HLe H H1∧u= .func (.func 291) #[] #[Pt b]∧Iter Tryz.prog 291 [Pt b] H1 (Aj L)∧St H1 w' σ:=by
 obtain ⟨a,c,rfl⟩:=RI.shape hr;refine Cl.o func265 ntmps265 ag1 ?_;refine .ae (.bx hs fun b1 w hs=>?_);refine .zn zg (.ae (.q hs (dp (f:=[]) (c:=[_]) rfl rfl) (.zn zg (.ret (Fin.bw results265 rfl ?_)))));obtain ⟨H1,g1,g2,hs⟩:=hs.bZ .here;exact ⟨H1,b1,g1,rfl,pB g2 (hr.mono g1),hs⟩
theorem xg{w:World}{n m:Int}{b:Nat}(hs:St H w σ)(hb:Row H b [I m]):
  Z4 268 [I n,Pt b] w fun u w'=>u= .bool (decide (n=m))∧St H w' σ:=by
 have Em:cellAt H b 0=some (I m):=hb.at 0;refine Cl.o func268 ntmps268 ag2 ?_;exact .ae (.zn zg (.ae (.z zm (.y hs (zld aj) (.z ik (.zn zg (.ret (Fin.bw results268 rfl ⟨rfl,hs⟩))))))))
set_option maxHeartbeats 1000000 in
theorem sL{w:World}{v:Value}{s:cM}(hs:St H w σ)(hr:RSy H v s):
  Z4 220 [v] w fun u w'=>∃H1 vx out e,HLe H H1∧u= .tuple #[vx,I e]∧RI H1 vx out∧FG s out e∧St H1 w' σ:=by
 obtain ⟨ul,rfl,hl⟩:=hr;obtain ⟨al,cl,rfl⟩:=RL.shape hl;refine Cl.o func220 ntmps220 ag1 ?_;refine .ae (.bx hs fun b1 w hs=>?_);refine .z zg (.zn zg (.seq (.ae (.y hs (zls [_,_] cf bg) (.o (.call call197 rfl (jN (s:=s) hs ⟨_,rfl,hl⟩) ?_))))));rintro _ w ⟨rfl,hs⟩;refine .zn zg (.ae (.z zm (.zn ez (.dz rfl (fun eT=>?_) (fun eT=>?_)))))
 ·exact .ae (.z zm (.z zg (.zn zg (.ret (rT ((Fin.hZ [] [] hs fun w hs=>⟨_,results2 results220 rfl rfl,H,_,[],_,HLe.refl H,rfl,RS.nil H 1 none 0,.bad eT,hs.out⟩)))))))
 ·refine .skip (nT (.seq (.ae (.y hs (zls [_,_] cf bg) ?_))));have aJ:s.Ok:=s.cO.1 (by simpa using eT);have yK:=aJ.len;refine .o (.call call223 rfl (kx (s:=s) hs aJ ⟨_,rfl,hl⟩) ?_);rintro _ w ⟨H1,bb,aq,rfl,El,hs⟩;refine .nil (.cond rfl (fun gM=>?_) (fun gM=>?_))
  ·exact .ae (.z zg (.zn zg (.ret (rT ((Fin.hZ [] [] hs fun w hs=>⟨_,results2 results220 rfl rfl,H1,_,[],_,aq,rfl,RS.nil H1 1 none 0,.none aJ (El.1 gM),hs.out⟩))))))
  ·refine .skip (nT (.ae (.y hs (zls [_,_] cf bg) ?_)));have V8:¬s.Sound:=fun h=>by rw [El.2 h] at gM;cases gM
   refine .o (.call call264 rfl (nk (s:=s) hs ⟨_,rfl,hl.mono aq⟩ ai) ?_);rintro v17 w ⟨L,en,hO,Qb,Om,hs⟩;obtain ⟨a17,l17,c17,rfl,h17⟩:=hO.shape;refine .o (.alloc hs gX rfl fun b5 w hs=>?_);refine .o (.store hs rfl rfl aO fun w hs=>?_);refine .nil (.seq (.ae (.y hs (zls [_,_] cf bg) (.o (.call call264 rfl (nk (s:=s) hs ⟨_,rfl,hl.mono aq⟩ ai) ?_)))));rintro v19 w ⟨L',j9,Ti,hLl',Qa,hs⟩;obtain rfl:L=L':=Om.uniq Qa;obtain ⟨H2,aQ,Xu,hs⟩:=cz.dT Ti ai hs .here;refine .o (.call call265 rfl (ra hs Xu) ?_);rintro _ w ⟨H3,IG,bJ,rfl,pF,hs⟩;have eC:=aq.trans (aQ.trans bJ);refine .nil (.block ?_);refine .rangeFunc (gf:=291) (cap:=[Pt IG]) (xs:=Aj L) (σb:=[.blk b1 [I s.many,.slice al s.cJ.length cl],.blk b5 [.slice a17 l17 c17],en]) (σf:=σ) (hs.sb:St H3 w (.blk b1 _:: .blk b5 _::en::σ)) trivial rfl pF call291 (fun x hx=>by
     simp only [Aj,List.mem_map] at hx;obtain ⟨j,_,rfl⟩:=hx;rfl) rfl
    (I:=fun j H' σb=>∃(t:cM) (ut vo:Value) (out:List Int) (en:Ent),σb=[.blk b1 [I t.many,ut],.blk b5 [vo],en]∧RL H' ut t.cJ∧cz 1 vo (Is out) en∧out.length≤L.length∧t.Ok∧zu s L (L.length - j) t out) (Ix:=fun _ _ _=>False)
    (fun j _ _ σ g1 ⟨t,ut,vo,out,en,g2,g3,g4⟩=>⟨t,ut,vo,out,en,g2,g3.mono g1,g4⟩) (fun _ _ _ _ _ h=>h)
    ⟨s,_,_,L,en,rfl,hl.mono eC,hO,Nat.le_refl _,aJ,.start⟩ ?_ ?_ (fun D c H' σb w _ h _=>h.elim)
   ·rintro l j hj H4 vX vW w eo ⟨t,ut,vo,out,en,rfl,Ub,Q8,YS,JO,hC⟩ hs ⟨rr,HF⟩;rw [DZ hj];have hjL:j<L.length:=by rw [nm] at hj;exact hj
    obtain ⟨at',ct,rfl⟩:=RL.shape Ub;obtain ⟨ao,lo,co,rfl,w7⟩:=Q8.shape;refine .region (.o (.alloc hs dw rfl fun b7 w hs=>?_));refine .o (.store hs rfl rfl ak fun w hs=>?_);refine .nil (nT ⟨H4,[.blk b7 [I (gi L (L.length - 1 - j))],.blk b1 [I t.many,.slice at' t.cJ.length ct],.blk b5 [.slice ao lo co],en],HLe.refl _,hs,?_⟩);rintro w nr - hs;refine .block (.ae (.y hs (zls [_,_] cf bg) (.y hs (zld aj) (.o (.buildSlice (cells:=[_]) hs cQ rfl rfl fun D0 w hs=>?_)))));obtain ⟨H5,ek,r25,hs⟩:=cz.dT (xs:=[gi L (L.length - 1 - j)]) (v:= .slice (some ⟨D0,0,none⟩) 1 1) (.full (len:=1) rfl) bB hs eJ;refine .o (.call call266 rfl (tZ (s:=t) hs ⟨_,rfl,Ub.mono ek⟩ r25 (by have:=JO.len;omega)) ?_);rintro _ w ⟨H6,iw,⟨u26,rfl,Qc⟩,hs⟩;obtain ⟨a26,c26,rfl⟩:=RL.shape Qc;refine .o (.alloc hs gZ rfl fun b8 w hs=>?_);refine .o (.aE (vs:=[_,_]) hs rfl rfl bg fun w hs=>?_);refine .nil (.ae (.y hs (zls [_,_] cf bg) (.o (.call call223 rfl (kx (s:=t.wo [gi L (L.length - 1 - j)]) hs (JO.wo _) ⟨_,rfl,Qc⟩) ?_))));rintro _ w ⟨H7,TE,kP,rfl,Kn,hs⟩;have tF:=ek.trans (iw.trans kP);refine .zn ia (.cond rfl (fun oF=>?_) (fun oF=>?_))
    ·refine .ae (.y hs (zls [_,_] cf bg) (.o (.aE (vs:=[_,_]) hs rfl rfl bg fun w hs=>?_)));refine .nil (.region (.y hs (zld an) (.q hs (dp (f:=[]) (c:=[_]) rfl rfl) ?_)));obtain ⟨H8,iQ,r7,hs⟩:=hs.bZ (b:=b7) eJ;replace hs:St H8 w (en:: .blk b1 [I t.many,.slice a26 (t.wo [gi L (L.length - 1 - j)]).cJ.length c26]:: .blk b5 [.slice ao lo co]::nr):=hs.sb;refine .o (.call call267 rfl (pz (g:=268) (cap:=[Pt b7]) (fun n=>decide (n=gi L (L.length - 1 - j))) hs Q8 ai call268
      (fun H' w σ n _ hle hs=>(xg hs (r7.mono hle)).mono fun u w' ⟨g1,g2⟩=>⟨H',HLe.refl _,g1,g2⟩)) ?_);rintro v33 w ⟨H9,en9,Aa,Q9,hs⟩
     obtain ⟨a33,l33,c33,rfl,h33⟩:=Q9.shape;refine .o (.store hs rfl rfl aO fun w hs=>?_);refine .nil (nB ?_);have Cz:=List.length_filter_le (fun n=> !decide (n=gi L (L.length - 1 - j))) out;have e:L.length - (j+1)=L.length - 1 - j:=by omega
     have V7:¬(t.wo [gi L (L.length - 1 - j)]).Sound:=fun h=>by rw [Kn.2 h] at oF;cases oF
     exact ⟨H9,[.blk b1 [I t.many,.slice a26 (t.wo [gi L (L.length - 1 - j)]).cJ.length c26],.blk b5 [.slice a33 l33 c33],en9],tF.trans (iQ.trans Aa),(hs.sb:St H9 w (.blk b1 _:: .blk b5 _::en9::nr)),t.wo [gi L (L.length - 1 - j)],_,_,_,_,rfl,Qc.mono (kP.trans (iQ.trans Aa)),Q9,ai,JO.wo _,by
      rw [e];exact .drop (by rw [show L.length - 1 - j+1=L.length - j by omega];exact hC) V7⟩
    ·refine .skip (nB ?_);have e:L.length - (j+1)=L.length - 1 - j:=by omega
     have MI:(t.wo [gi L (L.length - 1 - j)]).Sound:=Kn.1 (by simpa using oF);exact ⟨H7,[.blk b1 [I t.many,.slice at' t.cJ.length ct],.blk b5 [.slice ao lo co],en],tF,(hs.sb:St H7 w (.blk b1 _:: .blk b5 _::en::nr)),t,_,_,_,_,rfl,Ub.mono tF,Q8,YS,JO,by
      rw [e];exact .keep (by rw [show L.length - 1 - j+1=L.length - j by omega];exact hC) MI⟩
   ·rintro D H4 vX w eo ⟨t,ut,vo,out,en,rfl,Ub,Q8,YS,JO,hC⟩ hs;rw [nm,Nat.sub_self] at hC;obtain ⟨ao,lo,co,rfl,w7⟩:=Q8.shape;replace hs:St H4 w (.obj D (.deferred (some [])):: .blk b1 [I t.many,ut]:: .blk b5 [.slice ao lo co]::en::σ):=hs;refine nB (nT (.ae (.y hs (zld an) (.z zg (.zn zg (.ret ?_))))));obtain ⟨H5,ek,hR5,hs⟩:=cz.dT Q8 ai hs eJ;exact Fin.hZ [D] [] hs fun w hs=>⟨_,results2 results220 rfl rfl,H5,_,out,0,eC.trans (eo.trans ek),rfl,hR5,.ok aJ V8 Om hC,hs.out⟩
theorem py{w:World}{v:Value}(q:Int→Prop)(hs:St H w σ)(hR:RI H v xs)(hc:∀args w,(callFunc g args).run Tryz.prog w= .ok (.enter g args) w)
  (hp:∀H' w σ (n:Int),n∈xs→HLe H H'→St H' w σ→Z4 g ([I n]++cap) w fun u w'=>∃H1 b,HLe H' H1∧u= .bool b∧(b=true↔q n)∧St H1 w' σ):
  Z4 228 [v,.func (.func g) #[] cap.toArray] w fun u w'=>∃H1 i,HLe H H1∧u=I i∧(0≤i↔∃x∈xs,q x)∧St H1 w' σ:=by
 obtain ⟨a,c,rfl⟩:=RI.shape hR;have hl:=(RI.len hR).2.2;refine Cl.o func228 ntmps228 ag2 ?_;refine .ae (.zn zg (.seq (.ae (.z zm (.z (de af) (.zn zm (.for (N:=xs.length) (J:=fun k fr w=>fr=[(1,.func (.func g) #[] cap.toArray),(0,.slice a xs.length c)]∧∃H1,HLe H H1∧(∀j<k,∀y,xs[j]? =some y→¬q y)∧St H1 w σ) ai ?_ ?_ ?_)))))))
 ·exact .mk ⟨rfl,H,HLe.refl H,fun j hj=>by omega,hs⟩
 ·rintro k fr w hk ⟨rfl,H1,aq,fV,hs⟩;obtain ⟨x,hx⟩:=nth hk;refine .block (.ae (.z zm (.zn zg (.ae (.z zm (.z zm (.z zm (.ixY hs (hR.mono aq) rfl rfl af ak hx rfl ?_))))))));intro ka o14 js;refine .q hs (aR rfl aj js) (.o (.qB (first:=[]) (cap:=cap) rfl rfl hc (hp _ _ _ x (List.mem_of_getElem? hx) aq hs) ?_));rintro _ w ⟨H2,ui,aQ,rfl,vF,hs⟩;refine .nil (.cond rfl (fun dN=>?_) (fun dN=>?_))
  ·exact .ae (.z zm (.zn zg (.ret (rB (rT (rB (rT (Fin.bw Nv rfl ⟨H2,_,aq.trans aQ,rfl,⟨fun _=>⟨x,List.mem_of_getElem? hx,vF.1 dN⟩,fun _=>by omega⟩,hs⟩))))))))
  ·exact .skip (nB (nT (.mk ⟨rfl,H2,aq.trans aQ,fY fV hx (fun h=>by rw [vF.2 h] at dN;cases dN),hs⟩)))
 ·rintro fr w ⟨rfl,H1,aq,fV,hs⟩;refine nT (.ae (.zn zg (.ret (Fin.bw Nv rfl ?_))));exact ⟨H1,_,aq,rfl,⟨fun h=>by omega,fun ⟨x,h1,h2⟩=>by
   obtain ⟨j,hj⟩:=List.getElem?_of_mem h1;exact (fV j (List.getElem?_eq_some_iff.1 hj).1 x hj h2).elim⟩,hs⟩
theorem nu{w:World}{v:Value}(q:Int→Prop)(hs:St H w σ)(hR:RI H v xs)(hc:∀args w,(callFunc g args).run Tryz.prog w= .ok (.enter g args) w)
  (hp:∀H' w σ (n:Int),n∈xs→HLe H H'→St H' w σ→Z4 g ([I n]++cap) w fun u w'=>∃H1 b,HLe H' H1∧u= .bool b∧(b=true↔q n)∧St H1 w' σ):
  Z4 185 [v,.func (.func g) #[] cap.toArray] w fun u w'=>∃H1 b,HLe H H1∧u= .bool b∧(b=true↔∃x∈xs,q x)∧St H1 w' σ:=by
 refine Cl.o func185 ntmps185 ag2 ?_;refine .ae (.zn zg (.ae (.z zm (.z zm (.o (.call call228 rfl (py q hs hR hc hp) ?_))))));rintro _ w ⟨H1,i,aq,rfl,hi,hs⟩;exact .z Ct (.zn zg (.ret (Fin.bw results185 rfl ⟨H1,_,aq,rfl,by simp only [decide_eq_true_eq];exact hi,hs⟩)))
theorem rW{w:World}(hs:St H w σ):Z4 284 [I a0,I a1,I a2] w fun v w'=>v= .bool (decide (a1≤a0∧a0≤a2))∧St H w' σ:=by
 refine Cl.o func284 ntmps284 ag3 ?_;refine .ae (.zn zg (.ae (.z zm (.z zm (.z sY (.z zm (.iY (t':=10) rfl (fun sH=>?_) (fun sH=>?_))))))))
 ·exact .T (.z zm (.T (.z zm (.T (.z sY (.z zpT (.zn zg (.ret (Fin.bw results284 rfl ⟨by simp [*],hs.out⟩)))))))))
 ·exact .Fs 3 3 true (.z zpF (.zn zg (.ret (Fin.bw results284 rfl ⟨by simp [*],hs.out⟩))))
theorem jw{w:World}{v:Value}{l:List Int}{many:Nat}(hs:St H w σ)(hr:RI H v l):
  Z4 259 [v,I many,I most] w fun v w'=>∃b:Bool,v= .bool b∧(b=true↔ji many most l)∧St H w' σ:=by
 obtain ⟨a,c,rfl⟩:=RI.shape hr;have hlen:=(RI.len hr).2.2;refine Cl.o func259 ntmps259 ag3 ?_;refine .ae (.zn zg (.seq (.ae (.z zm (.z (de af) (.z zm (.o (.call call284 rfl (rW hs) ?_))))))));rintro _ w ⟨rfl,hs⟩;refine .z ia (.z zm (.bif (t':=14) rfl (fun Ks=>?_) (fun Ks=>?_)))
 ·exact .Fs 4 5 false (.z zpT (.z zm (.Fs 8 11 false (.zn zpT (.cT (.ae (.zn zg (.ret (rT (Fin.bw results259 rfl ⟨false,rfl,⟨fun h=>(by cases h),fun h=>by have:=h.two;have:=h.many;simp at Ks;omega⟩,hs⟩))))))))))
 ·refine .T (.z zm (.T ?_));have Pv:2≤l.length∧l.length≤many:=by simp at Ks;omega
  refine .ixY hs hr rfl rfl af ak (bL (l:=l) (i:=0) ai) dG ?_;intro ui o16 dN;refine .T (.q hs (aR rfl aj dN) (.T (.z ju (.z zpF (.z zm (.iY (t':=20) rfl (fun HX=>?_) (fun HX=>?_)))))))
  ·exact .Fs 8 11 false (.zn zpT (.cT (.ae (.zn zg (.ret (rT (Fin.bw results259 rfl ⟨false,rfl,⟨fun h=>(by cases h),fun h=>by have:=h.low;omega⟩,hs⟩)))))))
  ·refine .T (.z zm (.T (.z zm (.T (.z (de af) (.T (.z iX (.T (.ixY hs hr rfl rfl af ak (bL (l:=l) (i:=(l.length - 1)) ai) dG ?_)))))))));intro D0 o25 jT;refine .T (.q hs (aR rfl aj jT) (.T (.z zm (.T (.z nJ (.zn zpF (.cg rfl (fun oF=>?_) (fun oF=>?_))))))))
   ·exact .ae (.zn zg (.ret (rT (Fin.bw results259 rfl ⟨false,rfl,⟨fun h=>(by cases h),fun h=>by have:=h.high;omega⟩,hs⟩))))
   ·refine .skip (nT (.seq (.ae (.z zm (.q hs (yt (k:=1) rfl rfl af ak ai ai) (.z (de af) (.zn zm (.for (N:=l.length - 1) (J:=fun k fr w=>fr=[(31,.slice (if c=1 then a else a.map (·.add (1*1))) (l.length - 1) (c - 1)),(0,.slice a l.length c)]∧(∀j<k,gi l j<gi l (j+1))∧St H w σ) ai ?_ ?_ ?_))))))))
    ·exact .mk ⟨rfl,fun j hj=>by omega,hs⟩
    ·rintro k fr w hk ⟨rfl,fV,hs⟩;have ht:=hr.tail (k:=1) ai;have hx:(l.drop 1)[k]? =some (gi l (k+1)):=by rw [List.getElem?_drop,Nat.add_comm];exact bL ai
     refine .block (.ae (.z zm (.ixY hs ht rfl rfl af ak hx rfl ?_)));intro UT o36 qk;refine .q hs (aR rfl aj qk) (.z zg (.zn zg (.ae (.z zm (.z zm (.ixY hs hr rfl rfl af ak (bL (l:=l) (i:=k) ai) dG ?_))))));intro UR o40 yS;refine .q hs (aR rfl aj yS) (.z zm (.zn Ct (.cg rfl (fun MU=>?_) (fun MU=>?_))))
     ·exact .ae (.zn zg (.ret (rB (rT (rB (rT (Fin.bw results259 rfl ⟨false,rfl,⟨fun h=>(by cases h),fun h=>by have:=h.rise k ai;omega⟩,hs⟩)))))))
     ·refine .skip (nB (nT ?_));exact .mk ⟨rfl,fun j hj=>by
       by_cases e:j=k
       ·subst e;omega
       ·exact fV j ai,hs⟩
    ·rintro fr w ⟨rfl,fV,hs⟩;exact nT (.ae (.zn zg (.ret (Fin.bw results259 rfl ⟨true,rfl,⟨fun _=>⟨ai,ai,ai,ai,fun i hi=>fV i ai⟩,fun _=>rfl⟩,hs⟩))))
theorem pw{w:World}{v:Value}{l:List Int}(hs:St H w σ)(hr:RI H v l):
  Z4 299 [v] w fun v w'=>∃e,v=I e∧((ji 9 100000 l∧e=0)∨(¬ji 9 100000 l∧e≠0))∧St H w' σ:=by
 obtain ⟨a,c,rfl⟩:=RI.shape hr;refine Cl.o func299 ntmps299 ag1 ?_;refine .ae (.zn zg (.seq (.ae (.z zm (.o (.call call259 rfl (jw (many:=9) (most:=100000) hs hr) ?_))))));rintro _ w ⟨b4,rfl,Zu,hs⟩;refine .zn ia (.cond rfl (fun PY=>?_) (fun PY=>?_))
 ·exact .ae (.zn zg (.ret (rT (Fin.bw results299 rfl ⟨_,rfl,.inr ⟨fun h=>by simp [Zu.2 h] at PY,by decide⟩,hs⟩))))
 ·exact .skip (nT (.ae (.zn zg (.ret (Fin.bw results299 rfl ⟨_,rfl,.inl ⟨Zu.1 (by simpa using PY),rfl⟩,hs⟩)))))
theorem jF{w:World}(hs:St H w σ)(ha:0<a)(hb:0<b∧b≤100000):
  Z4 287 [I a,I b] w fun v w'=>v=I (rat a b)∧St H w' σ:=by
 have h1:0≤b.tdiv a:=Int.tdiv_nonneg ai ai;have h2:b.tdiv a≤b:=by rw [Int.tdiv_eq_ediv_of_nonneg ai];exact Int.ediv_le_self _ ai
 have hw:=kO (m:=b.tdiv a) ⟨ai,ai⟩;refine Cl.o func287 ntmps287 ag2 ?_;refine .ae (.zn zg (.seq (.ae (.z zm (.z zm (.z FP (.z ik (.z zm (.iY (t':=9) rfl (fun SZ=>?_) (fun SZ=>?_))))))))))
 ·refine .T (.z zm (.T (.z zm (.T (.z QP (.T (.z sY (.zn zpT (.cg rfl (fun js=>?_) (fun js=>?_))))))))))
  ·refine .ae (.z zm (.z zm (.z QP (.zn zg (.ret (rT (Fin.bw results287 rfl ?_)))))));rw [hw] at js ⊢;exact ⟨by unfold rat;rw [if_pos ⟨by assumption,by assumption⟩],hs⟩
  ·refine .skip (nT (.ae (.zn zg (.ret (Fin.bw results287 rfl ?_)))));rw [hw] at js;exact ⟨by unfold rat;rw [if_neg ai],hs⟩
 ·exact .Fs 4 4 true (.zn zpF (.cF (.skip (nT (.ae (.zn zg (.ret (Fin.bw results287 rfl ⟨by unfold rat;rw [if_neg ai],hs⟩))))))))
def tO(l:List Int):List (List Value):=(BV l).map fun g=>[Value.agg #[I (g.at_:Int),I (g.n:Int)]]
theorem IM{l:List Int}(hp:ji 9 100000 l){i:Nat}(h:i+2<l.length):iF l i=true↔0<rat (gi l (i+1) - gi l i) (gi l (i+2) - gi l (i+1))∨0<rat (gi l (i+2) - gi l (i+1)) (gi l (i+1) - gi l i):=by
 have h1:=hp.rise i ai;have h2:gi l (i+1)<gi l (i+2):=hp.rise (i+1) ai;unfold iF;rw [IP ai ai];simp only [Bool.and_eq_true,decide_eq_true_eq];omega
theorem rX{b:Nat}{v:Value}{l:List Int}(hp:ji 9 100000 l)(hb:Row H b [v])(hr:RI H v l):Iter Tryz.prog 302 [Pt b] H (tO l):=by
 intro ly II Ix _ _ hy H0 FO σf w hle AT hs;obtain ⟨a,c,rfl⟩:=RI.shape hr;have hlen:=hp.many;have Em:cellAt H0 b 0=some (.slice a l.length c):=cellAt.mono (hb.at 0) hle;refine Cl.o func302 ntmps302 ag2 ?_;refine .ae (.zn zg (.block ?_));refine .loop (fun i:Nat=>⟨59,[],[(3,I (i:Int)),(0,.func (.yield ly) #[] #[]),(1,Pt b)]⟩)
  (fun i w=>i≤l.length∧∃j,j≤(BV l).length∧(BV l).drop j=rJ l i∧∃H1 σb,HLe H H1∧HLe H0 H1∧II j H1 σb∧St H1 w (σb++σf)) (fun i=>l.length - i) 0 (.dc rfl bB aW)
  ⟨Nat.zero_le _,0,Nat.zero_le _,rfl,H0,FO,hle,HLe.refl _,AT,hs⟩ ?_
 clear hs AT;rintro i w ⟨sW,j,hj,hd,H1,σb,aq,eY,hI,hs⟩;have CB:cellAt H1 b 0=some (.slice a l.length c):=cellAt.mono Em eY;refine .seq (.ae (.z zm (.z cD (.y hs (zld an) (.z (de af) (.zn ju (.cg rfl (fun mX=>?_) (fun mX=>?_))))))))
 ·refine .skip (nT (.block (.ae (.z zm (.z (zbd [_,_] Cg) (.o (.alloc hs zeroValue315 rfl fun b4 w hs=>?_)))))));refine .o (.aE (vs:=[_,_]) hs rfl rfl sizeOf315 fun w hs=>?_);refine .nil (.cut (fun fs w=>mT fs ⟨59,[],[(4,Pt b4),(3,I (i:Int)),(0,.func (.yield ly) #[] #[]),(1,Pt b)]⟩∧St H1 w (.blk b4 [I (i:Int),I (((if iF l i then 2 else 1:Nat)):Int)]::(σb++σf))) ?_ ?_)
  ·refine .ae (.z zm (.z cD (.y hs (zld an) (.z (de af) (.zn ju (.cg rfl (fun fW=>?_) (fun fW=>?_)))))))
   ·refine .seq (.draw mix rfl hs fun w hs=>?_);refine .y 0 rfl hs an ?_;refine .z 1 rfl zm ?_;refine .z 2 rfl cD ?_;have r1:=hp.rise i ai;have r2:gi l (i+1)<gi l (i+2):=hp.rise (i+1) ai;have HM:=IM hp (i:=i) ai;have q1:=hp.bd (i:=i) ai;have q2:=hp.bd (i:=i+2) ai;refine .ixX (enc:=fun x=>[I x]) (i:=3) hs rfl az .none (hr.mono aq) rfl rfl af ak (bL (l:=l) (i:=(i+1)) ai) dG ?_;intro No o22 jc;replace jc:=bN.one jc;refine .r (i:=4) hs rfl az .none (aR rfl aj jc) ?_;refine .y 5 rfl hs an ?_;refine .z 6 rfl zm ?_;refine .ixX (enc:=fun x=>[I x]) (i:=7) hs rfl az .none (hr.mono aq) rfl rfl af ak (bL (l:=l) (i:=i) ai) dG ?_;intro TF o26 jy;replace jy:=bN.one jy;refine .r (i:=8) hs rfl az .none (aR rfl aj jy) ?_;refine .zw 9 rfl iX ?_;refine .y 10 rfl hs an ?_;refine .z 11 rfl zm ?_;refine .z 12 rfl cD ?_;refine .ixX (enc:=fun x=>[I x]) (i:=13) hs rfl az .none (hr.mono aq) rfl rfl af ak (bL (l:=l) (i:=(i+2)) ai) dG ?_;intro b32 o32 HT;replace HT:=bN.one HT;refine .r (i:=14) hs rfl az .none (aR rfl aj HT) ?_;refine .y 15 rfl hs an ?_;refine .z 16 rfl zm ?_;refine .z 17 rfl cD ?_;refine .ixX (enc:=fun x=>[I x]) (i:=18) hs rfl az .none (hr.mono aq) rfl rfl af ak (bL (l:=l) (i:=(i+1)) ai) dG ?_;intro CD o37 yT;replace yT:=bN.one yT;refine .r (i:=19) hs rfl az .none (aR rfl aj yT) ?_;refine .zw 20 rfl iX ?_;refine .z 21 rfl zg ?_;refine .z 22 rfl zg ?_;refine .D hs ?_;refine .ae (.z zm (.z zm (.o (.call call287 rfl (jF hs ai ai) ?_))));rintro _ w ⟨rfl,hs⟩;refine .z nJ (.z zm (.iY (t':=44) rfl (fun HW=>?_) (fun HW=>?_)))
    ·refine .Fs 4 4 false (.zn zpT (.cT (.region (.z (zfa kU) (.o (.store hs rfl rfl ak fun w hs=>?_))))));refine .nil (nT ?_);rw [HM.2 (.inl HW)];exact ⟨aW,hs⟩
    ·refine .T (.z zm (.T (.z zm (.T (.o (.call call287 rfl (jF hs ai ai) ?_))))));rintro _ w ⟨rfl,hs⟩;refine .T (.z nJ (.zn zpF (.cg rfl (fun w9=>?_) (fun w9=>?_))))
     ·refine .region (.z (zfa kU) (.o (.store hs rfl rfl ak fun w hs=>?_)));refine .nil (nT ?_);rw [HM.2 (.inr w9)];exact ⟨aW,hs⟩
     ·refine .skip (nT ?_);rw [show iF l i=false from Bool.eq_false_iff.2 fun h=>by have:=HM.1 h;omega];exact ⟨aW,hs⟩
   ·refine .skip (nT ?_);rw [show iF l i=false by simp [iF];omega];exact ⟨aW,hs⟩
  ·rintro fs w ⟨iR,hs⟩;refine WE.sub ?_ iR;have Lp:=DD (l:=l) (i:=i) ai;rw [Lp] at hd;have wy:j<(BV l).length:=by
    have:=congrArg List.length hd;simp at this;omega
   have hgj:(BV l)[j]=⟨i,iF l i⟩:=by
    rw [List.drop_eq_getElem_cons wy] at hd;exact (List.cons.inj hd).1
   have hdj:(BV l).drop (j+1)=rJ l (i+(if iF l i then 2 else 1)):=by
    rw [List.drop_eq_getElem_cons wy] at hd;exact (List.cons.inj hd).2
   have hn12:(if iF l i then 2 else 1:Nat)=1∨(if iF l i then 2 else 1:Nat)=2:=by split<;>simp
   refine .seq (.ae (.z zm (.y hs (zls [_,_] isAgg315 sizeOf315) ?_)));have pQ:j<(tO l).length:=by simpa [tO] using wy
   have zE:=hy j pQ H1 σb (.blk b4 [I (i:Int),I (((if iF l i then 2 else 1:Nat)):Int)]::σf) w aq hI (St.deep hs);rw [show (tO l)[j]=[Value.agg #[I (i:Int),I (((if iF l i then 2 else 1:Nat)):Int)]] by simp only [tO,List.getElem_map,hgj];rfl] at zE;refine .o (.yield rfl rfl zE ?_);rintro v53 w ⟨H2,σ2,g1,hs,g3⟩;obtain ⟨bb,rfl,gT,gF⟩:=pT g3;replace hs:=St.shallow hs;refine .zn ia (.cond rfl (fun MT=>?_) (fun MT=>?_))
   ·exact .ret (rT (rB (rT (rB (Fin.QR results302 ⟨H2,σ2,eY.trans g1,hs.tail,.inr (gF (by simpa using MT))⟩)))))
   ·refine .skip (nT (.region (.z zm (.z (zfa kU) (.y hs (zld aj) (.z cD (.zn zg (nB (nT ?_)))))))));generalize (if iF l i then 2 else 1:Nat)=n at*;exact ⟨i+n,.dc rfl bB aW,⟨ai,j+1,wy,hdj,H2,σ2,aq.trans g1,eY.trans g1,gT (by simpa using MT),hs.tail⟩,ai⟩
 ·refine .exit (xT (xT (xB ?_)));rw [AW ai] at hd;have:(BV l).length≤j:=by simpa using hd
  obtain rfl:j=(BV l).length:=by omega
  exact Fin.DS results302 ⟨H1,σb,eY,hs,.inl (by simpa [tO] using hI)⟩
theorem uL{w:World}{v:Value}{l:List Int}(hs:St H w σ)(hr:RI H v l)(hp:ji 9 100000 l):
  Z4 286 [v] w fun u w'=>∃H1 b,HLe H H1∧u= .func (.func 302) #[] #[Pt b]∧Iter Tryz.prog 302 [Pt b] H1 (tO l)∧St H1 w' σ:=by
 obtain ⟨a,c,rfl⟩:=RI.shape hr;refine Cl.o func286 ntmps286 ag1 ?_;refine .ae (.bx hs fun b1 w hs=>?_);refine .zn zg (.ae (.q hs (dp (f:=[]) (c:=[_]) rfl rfl) (.zn zg (.ret (Fin.bw results286 rfl ?_)))));obtain ⟨H1,g1,g2,hs⟩:=hs.bZ .here;exact ⟨H1,b1,g1,rfl,rX hp g2 (hr.mono g1),hs⟩
theorem rG{w:World}{bs bW from_ n:Nat}{W:List Int}{v:Value}(hs:St H w (.blk bs [.slice (some ⟨bW,0,none⟩) n n]:: .blk bW (Is W)::σ))(hW:W.length=n)(hr:RI H v xs)(hl:from_+xs.length≤n)(hn:n≤9)
  (hz:bI W n≤1000000000) (ha:A6 xs≤1000000000):
  Z4 285 [Pt bs,I (from_:Int),v] w fun _ w'=>St H w' (.blk bs [.slice (some ⟨bW,0,none⟩) n n]:: .blk bW (Is (nF W from_ xs))::σ):=by
 obtain ⟨a,c,rfl⟩:=RI.shape hr;have hlen:=(RI.len hr).2.2;refine Cl.o func285 ntmps285 ag3 ?_;refine .ae (.z zm (.z (de af) (.zn zm (.for (N:=xs.length) (J:=fun k fr w=>fr=[(8,.slice a xs.length c),(0,Pt bs),(1,I (from_:Int))]∧St H w (.blk bs [.slice (some ⟨bW,0,none⟩) n n]:: .blk bW (Is (nF W from_ (xs.take k)))::σ)) ai ?_ ?_ ?_))))
 ·exact .mk ⟨rfl,hs⟩
 ·rintro k fr w hk ⟨rfl,hs⟩;have CC:=qM (xs.take k) W from_;have nZ:=sQ (xs.take k) W from_ (by rw [List.length_take];omega);rw [hW] at nZ;have h1:=D2 xs k;have h2:=La xs k;have h3:=ot (nF W from_ (xs.take k)) (v:=from_+k) (n:=n) ai;have h4:=Ij hk W from_;refine .block (.ae (.z zm (.ixY hs hr rfl rfl af ak (bL (l:=xs) (i:=k) ai) dG ?_)));intro mf o13 iz;refine .q hs (aR rfl aj iz) (.z zg (.zn zg (.region (.z zm (.z znc (.z (zfa rK) (.y hs (zld an) (.z zm (.z zm (.z cD (.q hs (kM (k:=from_+k) rfl rfl af ak ai ai) (.y hs (zld aj) (.z zm (.z cD (.q hs (kM (k:=from_+k) rfl rfl af ak ai ai) (.o (.store hs rfl rfl ak fun w hs=>?_)))))))))))))))));exact .nil (nB (nT (.mk ⟨rfl,by rw [h4];exact hs⟩)))
 ·rintro fr w ⟨rfl,hs⟩;rw [List.take_length] at hs;exact Fin.DS results285 hs
theorem Hv(ha:0<a∧a≤100000)(hb:0<b∧b≤100000):0≤min a b∧min a b≤100000:=by omega
theorem OT(h:0<tms a b):tms a b=1∨tms a b=2∨tms a b=3:=by have:=NG a b;omega
set_option maxHeartbeats 1000000 in
theorem kf{w:World}{v:Value}{l:List Int}(hs:St H w σ)(hr:RI H v l)(hp:ji 9 100000 l):
  Z4 260 [v] w fun u w'=>∃H1,HLe H H1∧RI H1 u (wts l)∧St H1 w' σ:=by
 obtain ⟨a,c,rfl⟩:=RI.shape hr;have Y1:=hp.many;have Ut:(BV l).length≤9:=by have:=wA l l.length 0;unfold BV;omega
 refine Cl.o func260 ntmps260 ag1 ?_;refine .ae (.bx hs fun b1 w hs=>?_);refine .zn zg (.ae (.y hs (zld an) (.z (de af) (.o (.BJ l.length hs rfl rfl af pN rfl ak dw ai fun mf w hs=>?_)))));refine .z (zbd [_] Cf) (.o (.alloc hs zeroValue317 rfl fun b3 w hs=>?_));refine .o (.aE (vs:=[_]) hs rfl rfl sizeOf317 fun w hs=>?_);refine .nil (.ae (.q hs (dp (f:=[_]) (c:=[]) rfl rfl) (.o (.alloc hs zeroValue318 rfl fun b4 w hs=>?_))));refine .o (.store hs rfl rfl sizeOf318 fun w hs=>?_);refine .nil (.seq (.ae (.y hs (zld an) (.o (.call call286 rfl (uL hs hr hp) ?_)))));rintro _ w ⟨H1,GR,aq,rfl,pF,hs⟩;refine .nil (.block ?_);refine .rangeFunc (gf:=302) (cap:=[Pt GR]) (xs:=tO l) (σb:=[.blk b3 [.slice (some ⟨mf,0,none⟩) l.length l.length],.blk mf (Is (Eg l 0)),.blk b4 [.func (.func 285) #[Pt b3] #[]],.blk b1 [.slice a l.length c]]) (σf:=σ) (hs.sb) trivial rfl pF call302 (fun x hx=>by
   simp only [tO,List.mem_map] at hx;obtain ⟨j,_,rfl⟩:=hx;rfl) rfl
  (I:=fun j H' σb=>σb=[.blk b3 [.slice (some ⟨mf,0,none⟩) l.length l.length],.blk mf (Is (Eg l j)),.blk b4 [.func (.func 285) #[Pt b3] #[]],.blk b1 [.slice a l.length c]]) (Ix:=fun _ _ _=>False)
  (fun j _ _ σ g1 g2=>g2) (fun _ _ _ _ _ h=>h) rfl ?_ ?_ (fun D c H' σb w _ h _=>h.elim)
 ·rintro ly j hj H2 vX vW w aQ rfl hs ⟨rr,HF⟩;have wy:j<(BV l).length:=by simpa [tO] using hj
  obtain ⟨g,hg⟩:=nth wy;rw [show (tO l)[j]=[Value.agg #[I (g.at_:Int),I (g.n:Int)]] by
   rw [List.getElem?_eq_getElem wy] at hg;simp only [tO,List.getElem_map,Option.some.inj hg]]
  obtain ⟨i1,i2,i3,i4,i5⟩:=DF hp (List.mem_of_getElem? hg);have hK:=CP hg;have ZL:=rU l j;have hKz:=Aq hp j ai;have BQ:=hr.mono (aq.trans aQ);have MJ:=hp.bd (i:=g.at_) ai;have NU:=hp.bd (i:=g.at_+1) ai;generalize hA:gi l (g.at_+1) - gi l g.at_=A at*;refine .region (.o (.alloc hs zeroValue315 rfl fun b5 w hs=>?_));refine .o (.aE (vs:=[_,_]) hs rfl rfl sizeOf315 fun w hs=>?_);refine .nil (nT ⟨H2,[.blk b5 [I (g.at_:Int),I (g.n:Int)],.blk b3 [.slice (some ⟨mf,0,none⟩) l.length l.length],.blk mf (Is (Eg l j)),.blk b4 [.func (.func 285) #[Pt b3] #[]],.blk b1 [.slice a l.length c]],HLe.refl _,hs,?_⟩);rintro w nr - hs;refine .block (.seq (.draw mix rfl hs fun w hs=>?_));refine .y 0 rfl hs an ?_;refine .z 1 rfl (zfa iO) ?_;refine .y 2 rfl hs aj ?_;refine .z 3 rfl cD ?_;refine .ixX (enc:=fun x=>[I x]) (i:=4) hs rfl az .none BQ rfl rfl af ak (bL (l:=l) (i:=(g.at_+1)) ai) dG ?_;intro IF o23 yV;replace yV:=bN.one yV;refine .r (i:=5) hs rfl az .none (aR rfl aj yV) ?_;refine .y 6 rfl hs an ?_;refine .z 7 rfl (zfa iO) ?_;refine .y 8 rfl hs aj ?_;refine .ixX (enc:=fun x=>[I x]) (i:=9) hs rfl az .none BQ rfl rfl af ak (bL (l:=l) (i:=g.at_) ai) dG ?_;intro TE o28 jS;replace jS:=bN.one jS;refine .r (i:=10) hs rfl az .none (aR rfl aj jS) ?_;refine .zw 11 rfl iX ?_;rw [hA];refine .zw 12 rfl zg ?_;refine .D hs ?_;refine .seq (.ae (.z (zfa kU) (.y hs (zld aj) (.z ik ?_))))
  skip
  refine .nil (.cg rfl (fun rl=>?_) (fun rl=>?_))
  ·refine .ae (.y hs (zld isAgg318) (.z (zfa iO) (.y hs (zld aj) (.z zm (.z mV (.z zm (.z mV (.o (.buildSlice (cells:=[_,_]) hs lB rfl rfl fun TB w hs=>?_)))))))));have h2:g.two=false:=by
    cases e:g.two with
    |false=>rfl
    |true=>simp [Grp.n,e] at rl
   obtain ⟨H3,bJ,r41,hs⟩:=cz.dT (xs:=[18*A,18*A]) (v:= .slice (some ⟨TB,0,none⟩) 2 2) (.full (len:=2) rfl) bB hs eJ;have Q3:=M7 h2 hA;rw [Q3] at hK i5;replace hs:St H3 w (.blk b3 [.slice (some ⟨mf,0,none⟩) l.length l.length]:: .blk mf (Is (Eg l j)):: .blk b5 [I (g.at_:Int),I (g.n:Int)]:: .blk b4 [.func (.func 285) #[Pt b3] #[]]:: .blk b1 [.slice a l.length c]::nr):=hs.sb;refine .o (.qB (first:=[Pt b3]) (cap:=[]) rfl rfl call285 (rG (from_:=g.at_) (xs:=[18*A,18*A]) hs ZL r41 (by simp;omega) ai ai ai) ?_);rintro _ w hs;rw [←hK] at hs;exact .nil (.exit (xT (xB ⟨H3,_,bJ,(hs.sb:St H3 w (.blk b3 _:: .blk mf _:: .blk b4 _:: .blk b1 _::nr)),rfl⟩)))
  ·refine .skip (nT (.seq (.draw mix rfl hs fun w hs=>?_)));have h2:g.two=true:=by
    cases e:g.two with
    |true=>rfl
    |false=>simp [Grp.n,e] at rl
   obtain ⟨j1,j2,j3,j4⟩:=i4 h2;have YQ:=hp.bd (i:=g.at_+2) ai;generalize hB:gi l (g.at_+2) - gi l (g.at_+1)=B at*;have hmx:=IP (a:=A) (b:=B) ai ai;have hk:=OT j4;have JZ:=Hv (a:=A) (b:=B) ⟨ai,ai⟩ ⟨ai,ai⟩;obtain ⟨n1,n2,n3,n4⟩:=M5 hk JZ.1 JZ.2;obtain ⟨n5,n6,n7,n8,n9⟩:=n4 _ n3.1 n3.2;generalize hT:tms A B=T at*;generalize hM:min A B=M at*;have Q3:=M6 h2 hA hB hT hM;refine .y 0 rfl hs an ?_;refine .z 1 rfl (zfa iO) ?_;refine .y 2 rfl hs aj ?_;refine .z 3 rfl cD ?_;refine .ixX (enc:=fun x=>[I x]) (i:=4) hs rfl az .none BQ rfl rfl af ak (bL (l:=l) (i:=(g.at_+2)) ai) dG ?_;intro b47 o47 tI;replace tI:=bN.one tI;refine .r (i:=5) hs rfl az .none (aR rfl aj tI) ?_;refine .y 6 rfl hs an ?_;refine .z 7 rfl (zfa iO) ?_;refine .y 8 rfl hs aj ?_;refine .z 9 rfl cD ?_;refine .ixX (enc:=fun x=>[I x]) (i:=10) hs rfl az .none BQ rfl rfl af ak (bL (l:=l) (i:=(g.at_+1)) ai) dG ?_;intro ZY o53 E5;replace E5:=bN.one E5;refine .r (i:=11) hs rfl az .none (aR rfl aj E5) ?_;refine .zw 12 rfl iX ?_;rw [hB];refine .zw 13 rfl zg ?_;refine .D hs ?_;refine .ae (.z zm (.z zm (.o (.call call287 rfl (jF hs ai ai) ?_))));rintro _ w ⟨rfl,hs⟩;refine .z zm (.z zm (.o (.call call287 rfl (jF hs ai ai) ?_)));rintro _ w ⟨rfl,hs⟩;refine .z IJ ?_;rw [←hmx];refine .zn zg (.ae (.z zm (.q hs (wg rfl rfl ai ai) (.z zm (.z cD (.z mV (.z zm (.z zm (.z G5 ?_)))))))));rw [hM];refine .z mV (.zn zg (.ae (.z zm (.z zm (.z mV (.z zm (.z iX (.z mV (.z zm (.z zm (.z cD (.z mV (.z zm (.z cD (.z mV (.z zm (.z zm (.z mV (.z iX (.z mV (.o (.buildSlice (cells:=[_,_,_]) hs DY rfl rfl fun TA w hs=>?_))))))))))))))))))))));refine .zn zg (.cut (fun fs w=>∃H3,mT fs ⟨103,[],[(10,.slice (some ⟨TA,0,none⟩) 3 3),(5,Pt b5),(4,Pt b4),(3,Pt b3),(1,Pt b1)]⟩∧HLe H2 H3∧RI H3 (.slice (some ⟨TA,0,none⟩) 3 3) (AX l g)∧St H3 w (.blk b3 [.slice (some ⟨mf,0,none⟩) l.length l.length]:: .blk mf (Is (Eg l j)):: .blk b5 [I (g.at_:Int),I (g.n:Int)]:: .blk b4 [.func (.func 285) #[Pt b3] #[]]:: .blk b1 [.slice a l.length c]::nr)) ?_ ?_)
   ·refine .ae (.z zm (.z zm (.zn nJ (.cg rfl (fun MS=>?_) (fun MS=>?_)))))
    ·refine .region (.z zm (.o (.call call270 rfl (nb (en:= .blk TA (Is [(6:Int).tdiv T*(1+T)*M*T*(2 - T),(6:Int).tdiv T*(1+T)*M*(1+T)*(1+T),(6:Int).tdiv T*(1+T)*M*(2*T - 1)])) (hs.sb:St H2 w (.blk TA _:: .blk b3 _:: .blk mf _:: .blk b5 _:: .blk b4 _:: .blk b1 _::nr)) (.full rfl) bB) ?_)));rintro _ w ⟨en95,Xx,hs⟩;refine .nil (nT ?_);obtain ⟨H3,bJ,r90,hs⟩:=cz.dT Xx bB hs .here;rw [if_pos MS] at Q3;rw [Q3];exact ⟨H3,aW,bJ,r90,hs⟩
    ·refine .skip (nT ?_);obtain ⟨H3,bJ,r90,hs⟩:=cz.dT (xs:=[(6:Int).tdiv T*(1+T)*M*T*(2 - T),(6:Int).tdiv T*(1+T)*M*(1+T)*(1+T),(6:Int).tdiv T*(1+T)*M*(2*T - 1)]) (v:= .slice (some ⟨TA,0,none⟩) 3 3) (.full (len:=3) rfl) bB hs eJ;rw [if_neg ai] at Q3;rw [Q3];exact ⟨H3,aW,bJ,r90,hs.sb⟩
   ·rintro fs w ⟨H3,iR,bJ,r90,hs⟩;refine WE.sub ?_ iR;refine .region (.y hs (zld isAgg318) (.z (zfa iO) (.y hs (zld aj) (.z zm (.o (.qB (first:=[Pt b3]) (cap:=[]) rfl rfl call285 (rG (from_:=g.at_) (xs:=AX l g) hs ZL r90 (by rw [Gv,show g.n=2 by unfold Grp.n;rw [h2];rfl];omega) ai ai ai) ?_))))));rintro _ w hs;rw [←hK] at hs;exact .nil (nB ⟨H3,_,bJ,(hs.sb:St H3 w (.blk b3 _:: .blk mf _:: .blk b4 _:: .blk b1 _::nr)),rfl⟩)
 ·rintro D H2 vX w aQ rfl hs;rw [show (tO l).length=(BV l).length by simp [tO],LA] at hs;replace hs:St H2 w (.obj D (.deferred (some [])):: .blk b3 [.slice (some ⟨mf,0,none⟩) l.length l.length]:: .blk mf (Is (wts l)):: .blk b4 [.func (.func 285) #[Pt b3] #[]]:: .blk b1 [.slice a l.length c]::σ):=hs;refine nB (nT (.ae (.z (zfa rK) (.y hs (zld an) (.zn zg (.ret ?_))))));obtain ⟨H3,bJ,hR,hs⟩:=cz.dT (xs:=wts l) (v:= .slice (some ⟨mf,0,none⟩) l.length l.length) (.full (by simp [Is,j5])) (by rw [j5];omega) hs eJ;exact Fin.hZ [D] [] hs fun w hs=>⟨_,results1 results260 rfl,H3,aq.trans (aQ.trans bJ),hR,hs.out⟩
def Hh(X Y:List Int)(i:Nat):List Int:=(List.range Y.length).map fun k=>gi X i*gi Y k
def tP(X Y:List Int)(i:Nat):List (List Int):=(List.range i).map (Hh X Y)
theorem se(X Y:List Int)(i:Nat):(Hh X Y i).length=Y.length:=by simp [Hh]
theorem qo(X Y:List Int)(i:Nat):(tP X Y i).length=i:=by simp [tP]
theorem HZ(X Y:List Int)(i:Nat):tP X Y (i+1)=tP X Y i++[Hh X Y i]:=by simp [tP,List.range_succ]
theorem I4(hk:k<Y.length):(Hh X Y i).take (k+1)=(Hh X Y i).take k++[gi X i*gi Y k]:=by
 rw [dA (by simp [Hh,hk]:(Hh X Y i)[k]? =some (gi X i*gi Y k))]
theorem Gx{n:Nat}(h:i<n):gr (tP X Y n) i=Hh X Y i:=by simp [gr,List.getD,tP,h]
theorem M8{n:Nat}(h:i<n)(hk:k<Y.length):gt (tP X Y n) i k=gi X i*gi Y k:=by
 unfold gt;rw [Gx h];simp [gi,List.getD,Hh,hk]
inductive GrS(X Y:List Int)(b:Nat)(i k:Nat)(H:bG)(σ:List Ent):Prop
 |go (us:List Value) (v:Value) (en:Ent) (h:i<X.length) (h1:RLs H us (tP X Y i)) (h2:cz 1 v (Is ((Hh X Y i).take k)) en) (h3:σ=[.blk b (us++v::List.replicate (X.length - i - 1) (.slice none 0 0)),en])
 |fin (us:List Value) (h:i=X.length) (h1:RLs H us (tP X Y i)) (h3:σ=[.blk b us])
theorem GrS.mono{b:Nat}{H':bG}(h:GrS X Y b i k H σ)(hl:HLe H H'):GrS X Y b i k H' σ:=by
 cases h with
 |go us v en h h1 h2 h3=>exact .go us v en h (h1.mono hl) h2 h3
 |fin us h h1 h3=>exact .fin us h (h1.mono hl) h3
theorem m9{w:World}{v:Value}{l:List Int}(hs:St H w σ)(hr:RI H v l):
  Z4 275 [v] w fun u w'=>∃H1 vo e,HLe H H1∧u= .tuple #[vo,I e]∧(ji 9 100000 l→e=0∧RI H1 vo (wts l))∧St H1 w' σ:=by
 obtain ⟨a,c,rfl⟩:=RI.shape hr;refine Cl.o func275 ntmps275 ag1 ?_;refine .ae (.z zg (.zn zg (.seq (.ae (.z zm (.o (.call call299 rfl (pw hs hr) ?_)))))));rintro _ w ⟨e,rfl,he,hs⟩;refine .zn zg (.ae (.z zm (.zn ez (.dz rfl (fun CA=>?_) (fun CA=>?_)))))
 ·exact .ae (.z zm (.z zg (.zn zg (.ret (rT (Fin.jr results275 rfl rfl ⟨H,_,_,HLe.refl H,rfl,fun h=>by rcases he with ⟨_,h2⟩|⟨h1,_⟩;exact (CA h2).elim;exact (h1 h).elim,hs⟩))))))
 ·refine .skip (nT (.ae (.z zm ?_)))
  have hp:ji 9 100000 l:=by rcases he with ⟨h,_⟩|⟨_,h2⟩;exact h;exact (h2 (by simpa using CA)).elim
  refine .o (.call call260 rfl (kf hs hr hp) ?_);rintro v11 w ⟨H1,aq,hR,hs⟩;exact .z zg (.zn zg (.ret (Fin.jr results275 rfl rfl ⟨H1,_,_,aq,rfl,fun _=>⟨rfl,hR⟩,hs⟩)))
theorem uK{w:World}{a b:List Int}(hs:St H w σ)(h1:RI H v1 a)(h2:RI H v2 b):
  Z4 215 [v1,v2] w fun u w'=>∃bb:Bool,u= .bool bb∧(bb=true↔ji 9 100000 a∧ji 7 15000 b)∧St H w' σ:=by
 refine Cl.o func215 ntmps215 ag2 ?_;refine .ae (.zn zg (.ae (.z zm (.o (.call call259 rfl (jw (many:=9) (most:=100000) hs h1) ?_)))));rintro _ w ⟨b6,rfl,Oe,hs⟩;refine .z zm (.bif (t':=7) rfl (fun UB=>?_) (fun UB=>?_))
 ·refine .T (.z zm (.T (.o (.call call259 rfl (jw (many:=7) (most:=15000) hs h2) ?_))));rintro _ w ⟨b9,rfl,SZ,hs⟩;exact .z zpT (.zn zg (.ret (Fin.bw results215 rfl ⟨_,rfl,by rw [SZ];exact ⟨fun h=>⟨Oe.1 UB,h⟩,fun h=>h.2⟩,hs⟩)))
 ·exact .Fs 2 2 true (.z zpF (.zn zg (.ret (Fin.bw results215 rfl ⟨_,rfl,⟨fun h=>(by cases h),fun h=>by rw [Oe.2 h.1] at UB;cases UB⟩,hs⟩))))
theorem q7{w:World}{bx by_:Nat}{y:Int}(hs:St H w σ)(hx:Row H bx [I x])(hy:Row H by_ [I y]):
  Z4 289 [Pt bx,Pt by_] w fun u w'=>u= .tuple #[I x,I y]∧St H w' σ:=by
 have Cv:=hx.at 0;have hy0:=hy.at 0;refine Cl.o func289 ntmps289 ag2 ?_;refine .ae (.z zg (.zn zg (.seq (.draw mix rfl hs fun w hs=>?_))));refine .y 0 rfl hs aj ?_;refine .y 1 rfl hs aj ?_;refine .z 2 rfl zg ?_;refine .z 3 rfl zg ?_;refine .D hs ?_;exact .ret (Fin.jr results289 rfl rfl ⟨rfl,hs⟩)
def PrE(X Y:List Int)(p:Nat)(H:bG)(z:List Value):Prop:=
 ∃bx by_,z=[.agg #[I ((p/Y.length:Nat):Int),I ((p%Y.length:Nat):Int)],.func (.func 289) #[] #[Pt bx,Pt by_]]∧Row H bx [I (gi X (p/Y.length))]∧Row H by_ [I (gi Y (p%Y.length))]
theorem s4{b1 b2:Nat}(CB:Row H b1 [v1])(zG:Row H b2 [v2])(hX:RI H v1 X)(hY:RI H v2 Y)(HY:X.length≤1000)(UD:Y.length≤1000):
  Nt Tryz.prog 288 [Pt b1,Pt b2] H (X.length*Y.length) (PrE X Y):=by
 intro ly II Ix E2 _ hy H0 FO σf w hle AT hs;obtain ⟨a1,c1,rfl⟩:=RI.shape hX;obtain ⟨a2,c2,rfl⟩:=RI.shape hY;have h01:cellAt H0 b1 0=some (.slice a1 X.length c1):=cellAt.mono (CB.at 0) hle;have h02:cellAt H0 b2 0=some (.slice a2 Y.length c2):=cellAt.mono (zG.at 0) hle;refine Cl.o func288 ntmps288 ag3 ?_;refine .ae (.y hs (zld an) (.z (de af) (.zn zm (.for (N:=X.length) (J:=fun i fr w=>fr=[(8,.slice a1 X.length c1),(0,.func (.yield ly) #[] #[]),(1,Pt b1),(2,Pt b2)]∧∃H1 σb,HLe H H1∧HLe H0 H1∧II (i*Y.length) H1 σb∧St H1 w (σb++σf)) ai ?_ ?_ ?_))))
 ·exact .mk ⟨rfl,H0,FO,hle,HLe.refl _,by rw [Nat.zero_mul];exact AT,hs⟩
 ·rintro i fr w hi ⟨rfl,H1,σb,aq,eY,hI,hs⟩;refine .block (.ae (.z zm (.ixY hs (hX.mono aq) rfl rfl af ak (bL (l:=X) (i:=i) ai) dG ?_)));intro mf o13 iz;refine .q hs (aR rfl aj iz) (.o (.alloc hs dw rfl fun b5 w hs=>?_));refine .z zg (.o (.store hs rfl rfl ak fun w hs=>?_));refine .nil (.ae ?_);obtain ⟨H2,aQ,r5,hs⟩:=hs.bZ (b:=b5) .here;have h22:=cellAt.mono h02 (eY.trans aQ);refine .y hs (zld an) (.z (de af) (.zn zm (.for (N:=Y.length) (J:=fun k fr w=>fr=[(15,.slice a2 Y.length c2),(4,I (i:Int)),(10,I (i:Int)),(9,I (X.length:Int)),(5,Pt b5),(8,.slice a1 X.length c1),(0,.func (.yield ly) #[] #[]),(1,Pt b1),(2,Pt b2)]∧∃H3 σb,HLe H2 H3∧II (i*Y.length+k) H3 σb∧St H3 w (σb++σf)) ai ?_ ?_ ?_)))
  ·exact .mk ⟨rfl,H2,σb,HLe.refl _,E2 _ _ _ _ aQ hI,hs⟩
  ·rintro k fr w hk ⟨rfl,H3,Lw,bJ,Kv,hs⟩;have eC:=eY.trans (aQ.trans bJ);have NY:=aq.trans (aQ.trans bJ);refine .block (.ae (.z zm (.ixY hs (hY.mono NY) rfl rfl af ak (bL (l:=Y) (i:=k) ai) dG ?_)));intro IG o20 tK;refine .q hs (aR rfl aj tK) (.o (.alloc hs dw rfl fun b7 w hs=>?_));refine .z zg (.o (.store hs rfl rfl ak fun w hs=>?_));refine .nil (.ae (.z zm (.z zm (.z zm (.q hs (Bx (vs:=[(0,I (i:Int)),(1,I (k:Int))]) (cells:=[I (i:Int),I (k:Int)]) zeroValue76 rfl runUnderlying76 ak rfl) (.q hs (dp (f:=[]) (c:=[_,_]) rfl rfl) ?_))))));obtain ⟨H4,eo,r7,hs⟩:=hs.bZ (b:=b7) .here;obtain ⟨d1,d2⟩:=Rp (nw:=Y.length) (i:=i) (k:=k) hk;have eX:i*Y.length+k<X.length*Y.length:=by
    have:=Nat.mul_le_mul_right Y.length (show i+1≤X.length by omega);rw [Nat.add_mul,Nat.one_mul] at this;omega
   have zE:=hy (i*Y.length+k) eX [.agg #[I (i:Int),I (k:Int)],.func (.func 289) #[] #[Pt b5,Pt b7]] H4 Lw σf w (NY.trans eo) ⟨b5,b7,by rw [d1,d2],by rw [d1];exact r5.mono (bJ.trans eo),by rw [d2];exact r7⟩ (E2 _ _ _ _ eo Kv) hs;refine .o (.yield rfl rfl zE ?_);rintro v27 w ⟨H5,σ5,g1,hs,g3⟩;obtain ⟨bb,rfl,gT,gF⟩:=pT g3;refine .zn ia (.cond rfl (fun jS=>?_) (fun jS=>?_))
   ·exact .ret (rB (rT (rB (rB (rT (rB (Fin.QR results288 ⟨H5,σ5,eC.trans (eo.trans g1),hs,.inr (gF (by simpa using jS))⟩)))))))
   ·exact .skip (nB (nT (.mk ⟨rfl,H5,σ5,bJ.trans (eo.trans g1),gT (by simpa using jS),hs⟩)))
  ·rintro fr w ⟨rfl,H3,Lw,bJ,Kv,hs⟩;exact nB (nT (.mk ⟨rfl,H3,Lw,aq.trans (aQ.trans bJ),eY.trans (aQ.trans bJ),by rw [Nat.add_mul,Nat.one_mul];exact Kv,hs⟩))
 ·rintro fr w ⟨rfl,H1,σb,aq,eY,hI,hs⟩;exact Fin.DS results288 ⟨H1,σb,eY,hs,.inl hI⟩
theorem wK{w:World}(hs:St H w σ)(hX:RI H v1 X)(hY:RI H v2 Y)(HY:X.length≤1000)(UD:Y.length≤1000):
  Z4 261 [v1,v2] w fun u w'=>∃H1 b1 b2,HLe H H1∧u= .func (.func 288) #[] #[Pt b1,Pt b2]∧Nt Tryz.prog 288 [Pt b1,Pt b2] H1 (X.length*Y.length) (PrE X Y)∧St H1 w' σ:=by
 obtain ⟨a1,c1,rfl⟩:=RI.shape hX;obtain ⟨a2,c2,rfl⟩:=RI.shape hY;refine Cl.o func261 ntmps261 ag2 ?_;refine .ae (.bx hs fun b2 w hs=>?_);refine .bx hs fun b3 w hs=>?_
 refine .zn zg (.ae (.q hs (dp (f:=[]) (c:=[_,_]) rfl rfl) (.zn zg (.ret (Fin.bw results261 rfl ?_)))));obtain ⟨H1,g1,r1,hs⟩:=hs.bZ (b:=b2) eJ;obtain ⟨H2,g2,r2,hs⟩:=hs.bZ (b:=b3) eJ;exact ⟨H2,b2,b3,g1.trans g2,rfl,s4 (r1.mono g2) r2 (hX.mono (g1.trans g2)) (hY.mono (g1.trans g2)) HY UD,hs⟩
set_option maxHeartbeats 1000000 in
theorem xL{w:World}{l1 l2:List Int}(hs:St H w σ)(JX:RI H v1 l1)(BQ:RI H v2 l2)(PE:ji 9 100000 l1)(Lm:ji 7 15000 l2):
  Z4 216 [v1,v2] w fun u w'=>∃H1,HLe H H1∧RT H1 u (tP (wts l1) (wts l2) l1.length)∧St H1 w' σ:=by
 obtain ⟨a1,c1,rfl⟩:=RI.shape JX;obtain ⟨a2,c2,rfl⟩:=RI.shape BQ;have uz:=PE.many;have Um:=Lm.many;have htw1:=PE.two;have htw2:=Lm.two;have V3:ji 9 100000 l2:=⟨Lm.two,ai,Lm.low,by have:=Lm.high;omega,Lm.rise⟩;have HY:=j5 l1;have UD:=j5 l2;have hXb:=NC PE;have hYb:=NC Lm;refine Cl.o func216 ntmps216 ag2 ?_;refine .ae (.zn zg (.ae (.z zm (.o (.call call260 rfl (kf hs JX PE) ?_)))));rintro v13 w ⟨H1,aq,hX,hs⟩;refine .z zm (.o (.call call260 rfl (kf hs (BQ.mono aq) V3) ?_));rintro v15 w ⟨H2,aQ,hY,hs⟩;replace hX:=hX.mono aQ;generalize wts l1=X at*;generalize wts l2=Y at*;obtain ⟨aX,cX,rfl⟩:=RI.shape hX;obtain ⟨aY,cY,rfl⟩:=RI.shape hY;refine .z zg (.zn zg (.ae (.z zm (.z (de af) (.o (.RV l1.length hs rfl rfl aF typeInfo34 rfl aO gX ai fun wG w hs=>?_))))));refine .o (.alloc hs zeroValue62 rfl fun b7 w hs=>?_);refine .o (.store hs rfl rfl sizeOf62 fun w hs=>?_);refine .nil (.seq (.ae (.z zm (.z zm (.o (.call call261 rfl (wK hs hX hY ai ai) ?_))))));rintro _ w ⟨H3,bp1,bp2,bJ,rfl,pF,hs⟩;have eC:=aq.trans (aQ.trans bJ);have h0:GrS X Y wG 0 0 H3 [.blk wG (List.replicate l1.length (.slice none 0 0)),.nul]:=by
  refine .go [] (.slice none 0 0) .nul ai (RLs.nil _) (.nil 1 none) ?_;rw [HY];obtain ⟨m,hm⟩:∃m,l1.length=m+1:=⟨l1.length - 1,ai⟩;rw [hm];rfl
 refine .nil (.block ?_);refine .NJ (gf:=288) (cap:=[Pt bp1,Pt bp2]) (N:=X.length*Y.length) (E:=PrE X Y) (σb:= .blk b7 [.slice (some ⟨wG,0,none⟩) l1.length l1.length]::[.blk wG (List.replicate l1.length (.slice none 0 0)),.nul]) (σf:=σ) (hs.nul.sb) trivial rfl pF call288 (fun k H' z ⟨_,_,hz,_⟩=>by rw [hz];rfl) rfl
  (I:=fun p H' σb=>∃σ1,σb= .blk b7 [.slice (some ⟨wG,0,none⟩) l1.length l1.length]::σ1∧GrS X Y wG (p/Y.length) (p%Y.length) H' σ1) (Ix:=fun _ _ _=>False)
  (fun j _ _ σ g1 ⟨σ1,g2,g3⟩=>⟨σ1,g2,g3.mono g1⟩) (fun _ _ _ _ _ h=>h) ⟨_,rfl,by rw [Nat.zero_div,Nat.zero_mod];exact h0⟩ ?_ ?_ (fun D c H' σb w _ h _=>h.elim)
 ·rintro ly p hp z H4 vX vW w eo ⟨bx,by_,rfl,rx,ry⟩ ⟨σ1,rfl,hG⟩ hs ⟨rr,HF⟩;have JY:=Gc (p:=p) (m:=Y.length) ai;have J5:=Nat.mod_lt p (show 0<Y.length by omega);have gd:p/Y.length<X.length:=Nat.div_lt_of_lt_mul (by rw [Nat.mul_comm];exact hp);generalize hi:p/Y.length=i at*;generalize hk:p%Y.length=k at*
  cases hG with
  |fin us h=>omega
  |go us v en h h1 h2 h3=>
  subst h3;obtain ⟨av,lv,cv,rfl,Y0⟩:=h2.shape;have MF:us.length=i:=by rw [h1.1,qo]
  have CB:=hXb i;have zG:=hYb k;have hpr:=OE (gi X i) (gi Y k);have hprb: -3456000000000≤gi X i*gi Y k∧gi X i*gi Y k≤3456000000000:=ni (A:=4800000) (B:=720000) (by unfold ab at CB;omega) (by unfold ab at zG;omega);refine .ae (.o (.alloc hs zeroValue76 rfl fun b8 w hs=>?_));refine .o (.aE (vs:=[_,_]) hs rfl rfl sizeOf76 fun w hs=>?_);refine .nil (.region (.zn zg (nT ⟨H4,[.blk b8 [I (i:Int),I (k:Int)],.blk b7 [.slice (some ⟨wG,0,none⟩) l1.length l1.length],.blk wG (us++Value.slice av lv cv::List.replicate (X.length - i - 1) (Value.slice none 0 0)),en],HLe.refl _,hs,?_⟩)));rintro w nr - hs;refine .block (.ae (.z zm (.o (.qB (first:=[]) (cap:=[Pt bx,Pt by_]) rfl rfl call289 (q7 hs rx ry) ?_))));rintro _ w ⟨rfl,hs⟩;refine .z zm (.z zex (.z zex (.z zg (.zn zg (.draw mix rfl hs fun w hs=>?_)))));refine .zv 0 rfl hs (lO vU) (.zw 1 rfl (zia 0 runUnderlying76 ak) (.y 2 rfl hs aj ?_));refine .y 3 rfl hs vU ?_;refine .zw 4 rfl (zia 0 runUnderlying76 ak) (.zv 5 rfl hs (lO aj) (.zw 6 rfl (kM (k:=i) rfl rfl aF aO rfl ai) (.load (i:=7) hs rfl az .none rfl an ?_ (hv:=by rw [List.getElem?_append_right ai,MF,Nat.sub_self];rfl))));refine .zw 8 rfl zm ?_;refine .z 9 rfl zm ?_;refine .z 10 rfl mV ?_;refine .E 11 hs ?_;refine .buildSlice (cells:=[_]) hs cQ rfl rfl ?_;intro UR w hs;refine .go (.E 12 hs ?_);refine .append (ys:=Is [gi X i*gi Y k]) hs cI rfl rfl h2 (.own .here rfl rfl) (jC _) (fun l' h=>by simp at h;omega) ?_;intro v41 en41 w hO hs;rw [show Is ((Hh X Y i).take k)++Is [gi X i*gi Y k]=Is ((Hh X Y i).take (k+1)) by rw [I4 J5];simp [Is]] at hO;obtain ⟨a41,l41,c41,rfl,hl41⟩:=hO.shape;refine .go (.zw 13 rfl (kM (k:=i) rfl rfl aF aO rfl ai) (.E 14 hs ?_));refine .store (c':=us++ .slice a41 l41 c41::List.replicate (X.length - i - 1) (.slice none 0 0)) hs rfl rfl aO ?_ eJ (by simp;omega) (by rw [List.set_append_right _ _ ai,MF,Nat.sub_self];rfl);intro w hs;refine .go (.D hs (nB ?_))
  rcases JY with ⟨g1,g2,g3⟩|⟨g1,g2,g3⟩
  ·exact ⟨H4,[.blk b7 [.slice (some ⟨wG,0,none⟩) l1.length l1.length],.blk wG (us++ .slice a41 l41 c41::List.replicate (X.length - i - 1) (.slice none 0 0)),en41],HLe.refl _,(hs.sb:St H4 w (.blk b7 _:: .blk wG _::en41::nr)),_,rfl,by rw [g2,g3];exact .go us _ en41 h h1 hO rfl⟩
  ·obtain ⟨H5,ek,hR,hs⟩:=cz.dT hO (by rw [List.length_take,se];omega) hs eJ;rw [List.take_of_length_le (by rw [se];omega)] at hR;have Oq:RLs H5 (us++[.slice a41 l41 c41]) (tP X Y (i+1)):=by rw [HZ];exact (h1.mono ek).snoc hR
   by_cases e:i+1<X.length
   ·refine ⟨H5,[.blk b7 [.slice (some ⟨wG,0,none⟩) l1.length l1.length],.blk wG (us++ .slice a41 l41 c41::List.replicate (X.length - i - 1) (.slice none 0 0)),.nul],ek,(hs.nul.sb:St H5 w (.blk b7 _:: .blk wG _:: .nul::nr)),_,rfl,?_⟩;rw [g2,g3];refine .go (us++[.slice a41 l41 c41]) (.slice none 0 0) .nul e Oq (.nil 1 none) ?_;obtain ⟨m,hm⟩:∃m,X.length - i - 1=m+1:=⟨X.length - i - 2,ai⟩;rw [hm,show X.length - (i+1) - 1=m by omega,List.append_assoc];rfl
   ·refine ⟨H5,[.blk b7 [.slice (some ⟨wG,0,none⟩) l1.length l1.length],.blk wG (us++ .slice a41 l41 c41::List.replicate (X.length - i - 1) (.slice none 0 0))],ek,(hs.sb:St H5 w (.blk b7 _:: .blk wG _::nr)),_,rfl,?_⟩;rw [g2,g3];refine .fin (us++[.slice a41 l41 c41]) ai Oq ?_;rw [show X.length - i - 1=0 by omega];rfl
 ·rintro D H4 vX w eo ⟨σ1,rfl,hG⟩ hs;rw [Nat.mul_div_cancel _ ai,Nat.mul_mod_left] at hG
  cases hG with
  |go us v en h=>omega
  |fin us h h1 h3=>
  subst h3;replace hs:St H4 w (.obj D (.deferred (some [])):: .blk b7 [.slice (some ⟨wG,0,none⟩) l1.length l1.length]:: .blk wG us::σ):=hs;have MF:us.length=l1.length:=by rw [h1.1,qo,HY]
  refine nB (nT (.ae (.y hs (zld vU) (.zn zg (.ret ?_)))));obtain ⟨H5,ek,hR,hs⟩:=h1.bZ (v:= .slice (some ⟨wG,0,none⟩) l1.length l1.length) (en:= .blk wG us) (.full (by simp [MF])) ai hs eJ;rw [HY] at hR;exact Fin.hZ [D] [] hs fun w hs=>⟨_,results1 results216 rfl,H5,eC.trans (eo.trans ek),hR,hs.out⟩
theorem pW{w:World}{l1 l2:List Int}(hs:St H w σ)(JX:RI H v1 l1)(BQ:RI H v2 l2):
  Z4 163 [v1,v2] w fun u w'=>∃H1 vo e,HLe H H1∧u= .tuple #[vo,I e]∧(ji 9 100000 l1∧ji 7 15000 l2→e=0∧RT H1 vo (tP (wts l1) (wts l2) l1.length))∧(e=0→ji 9 100000 l1∧ji 7 15000 l2)∧St H1 w' σ:=by
 refine Cl.o func163 ntmps163 ag2 ?_;refine .ae (.z zg (.zn zg (.seq (.ae (.z zm (.z zm (.o (.call call215 rfl (uK hs JX BQ) ?_))))))));rintro _ w ⟨b8,rfl,Od,hs⟩;refine .zn ia (.cond rfl (fun mW=>?_) (fun mW=>?_))
 ·exact .ae (.z zg (.zn zg (.ret (rT (Fin.jr results163 rfl rfl ⟨H,_,_,HLe.refl H,rfl,fun h=>(by rw [Od.2 h] at mW;cases mW),fun h=>ai,hs⟩)))))
 ·refine .skip (nT (.ae (.z zm (.z zm ?_))));have hp:=Od.1 (by simpa using mW);refine .o (.call call216 rfl (xL hs JX BQ hp.1 hp.2) ?_);rintro v12 w ⟨H1,aq,hR,hs⟩;exact .z zg (.zn zg (.ret (Fin.jr results163 rfl rfl ⟨H1,_,_,aq,rfl,fun _=>⟨rfl,hR⟩,fun _=>hp,hs⟩)))
end Go.Proofs.YteajddicacjkhaaGreat
