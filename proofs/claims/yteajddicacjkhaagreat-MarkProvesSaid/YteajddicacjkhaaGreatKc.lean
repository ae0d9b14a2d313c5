/-
  Texts of these claims, joined: Opn Opb Opw Opv Opm Opz Opq Opc Opf Cls Fct Wa Wb Wc Wd We Wf Wg Wh Wp Wt Wu Wv Wx Wy Xc Xd Xf Xi Xj Xn Srt.
-/
import Derived.Test.YteajddicacjkhaaGreatKb
import Derived.Test.YteajddicacjkhaaGreatProg
import Derived.KernelRfl
import Derived.RowKit
import Derived.JoinedOf
import Derived.Shelf.Sort.Plain
import Derived.Shelf.Slices.CompactI
import Derived.Shelf.Slices.In.SortNone
namespace Go.Proofs.YteajddicacjkhaaGreat
open Tryz
abbrev ab8:=Go.MW.Cl Tryz.prog
theorem aaq:type_of% @call117:=@call117
theorem aap:type_of% @call119:=@call119
theorem yo:type_of% @call141:=@call141
theorem qs:type_of% @call146:=@call146
theorem jP:type_of% @call164:=@call164
theorem nf:type_of% @call167:=@call167
theorem PD:type_of% @call199:=@call199
theorem HR:type_of% @call253:=@call253
theorem jE:type_of% @call36:=@call36
theorem lY:type_of% @call72:=@call72
theorem qS:type_of% @call74:=@call74
theorem k9:type_of% @call90:=@call90
theorem ED:type_of% @call93:=@call93
theorem km:type_of% @isAgg100:=@isAgg100
theorem pa:type_of% @isAgg113:=@isAgg113
theorem o9:type_of% @isAgg120:=@isAgg120
theorem eF:type_of% @isAgg122:=@isAgg122
theorem HQ:type_of% @isAgg140:=@isAgg140
theorem kl:type_of% @isAgg162:=@isAgg162
theorem fc:type_of% @isAgg175:=@isAgg175
theorem bT:type_of% @isAgg177:=@isAgg177
theorem HP:type_of% @isAgg179:=@isAgg179
theorem kT:type_of% @isAgg193:=@isAgg193
theorem kx:type_of% @isAgg22:=@isAgg22
theorem QE:type_of% @isAgg226:=@isAgg226
theorem k8:type_of% @isAgg23:=@isAgg23
theorem QD:type_of% @isAgg241:=@isAgg241
theorem QC:type_of% @isAgg243:=@isAgg243
theorem ck:type_of% @isAgg25:=@isAgg25
theorem gC:type_of% @isAgg26:=@isAgg26
theorem nq:type_of% @isAgg267:=@isAgg267
theorem iX:type_of% @isAgg28:=@isAgg28
theorem aj:type_of% @isAgg3:=@isAgg3
theorem rn:type_of% @isAgg303:=@isAgg303
theorem an:type_of% @isAgg34:=@isAgg34
theorem Kd:type_of% @isAgg4:=@isAgg4
theorem cE:type_of% @isAgg42:=@isAgg42
theorem bY:type_of% @isAgg48:=@isAgg48
theorem dD:type_of% @isAgg49:=@isAgg49
theorem kv:type_of% @isAgg50:=@isAgg50
theorem bn:type_of% @isAgg52:=@isAgg52
theorem aao:type_of% @isAgg62:=@isAgg62
theorem ep:type_of% @isAgg87:=@isAgg87
theorem PC:type_of% @results111:=@results111
theorem rm:type_of% @results113:=@results113
theorem yn:type_of% @results117:=@results117
theorem EC:type_of% @results120:=@results120
theorem yk:type_of% @results123:=@results123
theorem PB:type_of% @results134:=@results134
theorem EB:type_of% @results135:=@results135
theorem EA:type_of% @results137:=@results137
theorem rl:type_of% @results138:=@results138
theorem oz:type_of% @results139:=@results139
theorem Ez:type_of% @results150:=@results150
theorem oy:type_of% @results155:=@results155
theorem Pz:type_of% @results170:=@results170
theorem yj:type_of% @results176:=@results176
theorem lx:type_of% @results18:=@results18
theorem mN:type_of% @results19:=@results19
theorem mM:type_of% @results20:=@results20
theorem Ey:type_of% @results202:=@results202
theorem Py:type_of% @results217:=@results217
theorem Px:type_of% @results228:=@results228
theorem Ex:type_of% @results256:=@results256
theorem Kc:type_of% @results32:=@results32
theorem V2:type_of% @results76:=@results76
theorem V1:type_of% @results79:=@results79
theorem kZ:type_of% @runUnderlying100:=@runUnderlying100
theorem Ew:type_of% @runUnderlying104:=@runUnderlying104
theorem aan:type_of% @runUnderlying113:=@runUnderlying113
theorem dq:type_of% @runUnderlying120:=@runUnderlying120
theorem Ev:type_of% @runUnderlying124:=@runUnderlying124
theorem Eu:type_of% @runUnderlying140:=@runUnderlying140
theorem nG:type_of% @runUnderlying151:=@runUnderlying151
theorem nF:type_of% @runUnderlying153:=@runUnderlying153
theorem cI:type_of% @runUnderlying159:=@runUnderlying159
theorem nE:type_of% @runUnderlying162:=@runUnderlying162
theorem bj:type_of% @runUnderlying175:=@runUnderlying175
theorem aam:type_of% @runUnderlying179:=@runUnderlying179
theorem aal:type_of% @runUnderlying190:=@runUnderlying190
theorem Et:type_of% @runUnderlying193:=@runUnderlying193
theorem bB:type_of% @runUnderlying22:=@runUnderlying22
theorem cf:type_of% @runUnderlying23:=@runUnderlying23
theorem aak:type_of% @runUnderlying236:=@runUnderlying236
theorem jD:type_of% @runUnderlying238:=@runUnderlying238
theorem aaj:type_of% @runUnderlying246:=@runUnderlying246
theorem HO:type_of% @runUnderlying25:=@runUnderlying25
theorem aV:type_of% @runUnderlying26:=@runUnderlying26
theorem fV:type_of% @runUnderlying260:=@runUnderlying260
theorem aN:type_of% @runUnderlying267:=@runUnderlying267
theorem aai:type_of% @runUnderlying272:=@runUnderlying272
theorem cJ:type_of% @runUnderlying3:=@runUnderlying3
theorem Es:type_of% @runUnderlying303:=@runUnderlying303
theorem tz:type_of% @runUnderlying312:=@runUnderlying312
theorem fh:type_of% @runUnderlying332:=@runUnderlying332
theorem ae:type_of% @runUnderlying34:=@runUnderlying34
theorem aI:type_of% @runUnderlying37:=@runUnderlying37
theorem HN:type_of% @runUnderlying39:=@runUnderlying39
theorem wR:type_of% @runUnderlying48:=@runUnderlying48
theorem aE:type_of% @runUnderlying49:=@runUnderlying49
theorem bM:type_of% @runUnderlying50:=@runUnderlying50
theorem aC:type_of% @runUnderlying62:=@runUnderlying62
theorem HM:type_of% @runUnderlying66:=@runUnderlying66
theorem kj:type_of% @runUnderlying80:=@runUnderlying80
theorem wQ:type_of% @runUnderlying87:=@runUnderlying87
theorem ja:type_of% @runUnderlying96:=@runUnderlying96
theorem HL:type_of% @runUnderlying97:=@runUnderlying97
theorem bh:type_of% @sizeOf100:=@sizeOf100
theorem eE:type_of% @sizeOf104:=@sizeOf104
theorem ku:type_of% @sizeOf113:=@sizeOf113
theorem bQ:type_of% @sizeOf122:=@sizeOf122
theorem db:type_of% @sizeOf134:=@sizeOf134
theorem fQ:type_of% @sizeOf140:=@sizeOf140
theorem V0:type_of% @sizeOf151:=@sizeOf151
theorem eD:type_of% @sizeOf153:=@sizeOf153
theorem dF:type_of% @sizeOf162:=@sizeOf162
theorem aQ:type_of% @sizeOf177:=@sizeOf177
theorem iy:type_of% @sizeOf179:=@sizeOf179
theorem Kb:type_of% @sizeOf190:=@sizeOf190
theorem cD:type_of% @sizeOf193:=@sizeOf193
theorem jL:type_of% @sizeOf199:=@sizeOf199
theorem Ch:type_of% @sizeOf241:=@sizeOf241
theorem bw:type_of% @sizeOf25:=@sizeOf25
theorem VZ:type_of% @sizeOf267:=@sizeOf267
theorem dG:type_of% @sizeOf28:=@sizeOf28
theorem ak:type_of% @sizeOf3:=@sizeOf3
theorem bD:type_of% @sizeOf303:=@sizeOf303
theorem Ka:type_of% @sizeOf315:=@sizeOf315
theorem fP:type_of% @sizeOf337:=@sizeOf337
theorem aO:type_of% @sizeOf34:=@sizeOf34
theorem BL:type_of% @sizeOf37:=@sizeOf37
theorem HK:type_of% @sizeOf4:=@sizeOf4
theorem aH:type_of% @sizeOf42:=@sizeOf42
theorem bq:type_of% @sizeOf48:=@sizeOf48
theorem aK:type_of% @sizeOf52:=@sizeOf52
theorem bg:type_of% @sizeOf87:=@sizeOf87
theorem jK:type_of% @typeInfo3:=@typeInfo3
theorem aah:type_of% @typeInfo303:=@typeInfo303
theorem tx:type_of% @underlying124:=@underlying124
theorem iw:type_of% @underlying3:=@underlying3
theorem Gd:type_of% @underlying39:=@underlying39
theorem w6:type_of% @underlying44:=@underlying44
theorem jW:type_of% @zeroValue100:=@zeroValue100
theorem Gc:type_of% @zeroValue104:=@zeroValue104
theorem ju:type_of% @zeroValue122:=@zeroValue122
theorem np:type_of% @zeroValue134:=@zeroValue134
theorem w5:type_of% @zeroValue140:=@zeroValue140
theorem Tr:type_of% @zeroValue153:=@zeroValue153
theorem wZ:type_of% @zeroValue162:=@zeroValue162
theorem fb:type_of% @zeroValue177:=@zeroValue177
theorem wY:type_of% @zeroValue179:=@zeroValue179
theorem wX:type_of% @zeroValue190:=@zeroValue190
theorem gz:type_of% @zeroValue193:=@zeroValue193
theorem Gb:type_of% @zeroValue199:=@zeroValue199
theorem o6:type_of% @zeroValue25:=@zeroValue25
theorem tw:type_of% @zeroValue28:=@zeroValue28
theorem dA:type_of% @zeroValue3:=@zeroValue3
theorem jt:type_of% @zeroValue303:=@zeroValue303
theorem Tq:type_of% @zeroValue315:=@zeroValue315
theorem ir:type_of% @zeroValue34:=@zeroValue34
theorem dy:type_of% @zeroValue42:=@zeroValue42
theorem tv:type_of% @zeroValue48:=@zeroValue48
theorem js:type_of% @zeroValue52:=@zeroValue52
theorem fg:type_of% @zeroValue87:=@zeroValue87
end Go.Proofs.YteajddicacjkhaaGreat
namespace Go.Proofs.YteajddicacjkhaaGreat
open Go.MW Go.ChangeShapes Go.WideShapes Tryz
set_option maxRecDepth 100000
theorem zo:Tryz.prog.cellsOf 3=1:=by kernel_rfl
theorem M0:Tryz.prog.cellsOf 34=1:=by kernel_rfl
theorem ZE:Tryz.prog.bytesOf 3=8:=by kernel_rfl
theorem Dm:reachBytes=140737488351232:=rfl
section
variable{H:Type}{enc:TypeId×Value→H}{w:World}{sp:Nat→Bool}{held:Bool}{n:Nat}{cs:List Value}{y:DataW H×List MemPlace}{v:Value}{d:DataW H}{p:List MemPlace}{r:Reach}{base:Nat}
theorem La(hw:Wt Tryz.prog 34 y.1)(h:DataW.trod enc Tryz.prog w 0 sp held n 34 cs=some y):∃v xs,cs=[v]∧RI (hp w) v xs∧IsIn xs:=by
 obtain ⟨v,xs,h1,h2,h3,h4⟩:=QO underlying34 iw zo hw h;rw [ZE,Dm] at h3;exact ⟨v,xs,h1,h2,ai,h4⟩
end
end Go.Proofs.YteajddicacjkhaaGreat
namespace Go.Proofs.YteajddicacjkhaaGreat
open Go.MW Go.ChangeShapes Go.WideShapes Tryz
set_option maxRecDepth 100000
theorem c_3:Tryz.prog.cellsOf 37=3:=by kernel_rfl
theorem b_3:Tryz.prog.bytesOf 37=24:=by kernel_rfl
section
variable{H:Type}{enc:TypeId×Value→H}{w:World}{sp:Nat→Bool}{held:Bool}{n:Nat}{cs:List Value}{y:DataW H×List MemPlace}{v:Value}{d:DataW H}{p:List MemPlace}{r:Reach}{base:Nat}
theorem TT(hw:Wt Tryz.prog 119 y.1)(h:DataW.trod enc Tryz.prog w 0 sp held n 119 cs=some y):∃(v:Value) (ls:List Tri),cs=[v]∧RS (hp w) 3 v (ls.map Tri.v)∧ls.length≤17592186043904:=by
 obtain ⟨v,zs,h1,h2,h9,h3⟩:=Dc (k:=3) underlying119 underlying37 iw zo eA c_3 hw h;obtain ⟨ls,h4⟩:=aau h3;rw [b_3,Dm] at h9;have h6:zs.length=ls.length:=by have:=congrArg List.length h4;simpa using this
 exact ⟨v,ls,h1,by rw [←h4];exact h2,ai⟩
end
end Go.Proofs.YteajddicacjkhaaGreat
namespace Go.Proofs.YteajddicacjkhaaGreat
open Go.MW Go.ChangeShapes Go.WideShapes Tryz
set_option maxRecDepth 100000
theorem Vx:Tryz.prog.cellsOf 120=1:=by kernel_rfl
theorem ZD:Tryz.prog.cellsOf 199=2:=by kernel_rfl
theorem ZF:Tryz.prog.bytesOf 199=16:=by kernel_rfl
theorem M3:Tryz.prog.cellsOf 122=2:=by kernel_rfl
theorem MF:∀{ls:List Prb},ls.map Prb.c=(ls.map fun p=>(⟨p.u,p.t⟩:Use)).map Use.c:=by
 intro ls;rw [List.map_map];rfl
section
variable{H:Type}{enc:TypeId×Value→H}{w:World}{sp:Nat→Bool}{held:Bool}{n:Nat}{cs:List Value}{y:DataW H×List MemPlace}{v:Value}{d:DataW H}{p:List MemPlace}{r:Reach}{base:Nat}
theorem TS(hw:Wt Tryz.prog 120 y.1)(h:DataW.trod enc Tryz.prog w 0 sp held n 120 cs=some y):∃v us,cs=[v]∧RU (hp w) v us∧us.length≤8796093021952:=by
 obtain ⟨v,zs,h1,h2,h9,h3⟩:=QN (k:=2) underlying120 underlying199 rfl eA (by
  intro i f hf
  match i with
  |0|1=>cases hf;exact ⟨rfl,iw,zo⟩
  |i+2=>simp at hf) ZD hw h
 obtain ⟨ls,h4,h5⟩:=aat h3;rw [ZF,Dm] at h9;have h6:zs.length=ls.length:=by have:=congrArg List.length h4;simpa using this
 exact ⟨v,ls.map fun p=>⟨p.u,p.t⟩,h1,by unfold RU;rw [←MF,←h4];exact h2,by rw [List.length_map];omega⟩
theorem Q4(hw:Wt Tryz.prog 122 y.1)(h:DataW.trod enc Tryz.prog w 0 sp held n 122 cs=some y):∃(m:Int) (us:List Use) (u:Value),cs=[I m,u]∧RU (hp w) u us∧I64 m∧us.length≤8796093021952:=by
 obtain ⟨ys,m,_,rfl,hlen,tg,hg⟩:=DataW.trod_struct underlying122 h;rw [M3] at hlen;obtain ⟨c0,c1,rfl⟩:=V7 hlen;obtain ⟨_,h0,k0⟩:=fld hg tg 0 rfl rfl rfl zo underlying122 hw;obtain ⟨_,h1,k1⟩:=fld hg tg 1 rfl rfl rfl Vx underlying122 hw;obtain ⟨m,e0,i0⟩:=Cm iw h0;obtain ⟨u,us,e1,r1,i1⟩:=TS k1 h1;cases e0;cases e1
 exact ⟨m,us,_,rfl,r1,i0,i1⟩
end
end Go.Proofs.YteajddicacjkhaaGreat
namespace Go.Proofs.YteajddicacjkhaaGreat
open Go.MW Go.ChangeShapes Go.WideShapes Tryz
set_option maxRecDepth 100000
theorem len6{α:Type}{l:List α}(h:l.length=6):∃a b c d e f,l=[a,b,c,d,e,f]:=by match l,h with|[a,b,c,d,e,f],_=>exact ⟨a,b,c,d,e,f,rfl⟩
section
variable{H:Type}{enc:TypeId×Value→H}{w:World}{sp:Nat→Bool}{held:Bool}{n:Nat}{cs:List Value}{y:DataW H×List MemPlace}{v:Value}{d:DataW H}{p:List MemPlace}{r:Reach}{base:Nat}
end
end Go.Proofs.YteajddicacjkhaaGreat
namespace Go.Proofs.YteajddicacjkhaaGreat
open Go.MW Go.ChangeShapes Go.WideShapes Tryz
set_option maxRecDepth 100000
theorem Pg:Tryz.prog.cellsOf 35=1:=by kernel_rfl
theorem Pf:Tryz.prog.cellsOf 36=1:=by kernel_rfl
theorem c_53:Tryz.prog.cellsOf 151=5:=by kernel_rfl
theorem c_43:Tryz.prog.cellsOf 97=4:=by kernel_rfl
theorem WN:Tryz.prog.cellsOf 37=3:=by kernel_rfl
theorem M1:Tryz.prog.cellsOf 39=7:=by kernel_rfl
theorem len7{α:Type}{l:List α}(h:l.length=7):∃a b c d e f g,l=[a,b,c,d,e,f,g]:=by match l,h with|[a,b,c,d,e,f,g],_=>exact ⟨a,b,c,d,e,f,g,rfl⟩
theorem Qp:∀{zs:List (List Int)},(∀z∈zs,z.length=5∧∀y∈z,I64 y)→∃ls:List F5,zs.map Is=ls.map F5.v
 |[],_=>⟨[],rfl⟩
 |z::zs,h=>by
  obtain ⟨ls,h1⟩:=Qp (fun c hc=>h c (.tail _ hc));obtain ⟨h3,_⟩:=h z (.head _)
  match z,h3 with
  |[a,b,c,d,e],_=>exact ⟨⟨a,b,c,d,e⟩::ls,by rw [List.map_cons,h1];rfl⟩
theorem Qo:∀{zs:List (List Int)},(∀z∈zs,z.length=4∧∀y∈z,I64 y)→∃ls:List F4,zs.map Is=ls.map F4.v
 |[],_=>⟨[],rfl⟩
 |z::zs,h=>by
  obtain ⟨ls,h1⟩:=Qo (fun c hc=>h c (.tail _ hc));obtain ⟨h3,_⟩:=h z (.head _)
  match z,h3 with
  |[a,b,c,d],_=>exact ⟨⟨a,b,c,d⟩::ls,by rw [List.map_cons,h1];rfl⟩
structure ab6 where
 sp:List Int
 rs:List F5
 cs:List F4
 pk:List Int
 x:Int
 y:Int
 z:Int
def Z8(H:cK)(v:Value)(r:ab6):Prop:=∃vs v5 v4 vp,v= .agg #[vs,v5,v4,vp,I r.x,I r.y,I r.z]∧RI H vs r.sp∧RF5 H v5 r.rs∧RF4 H v4 r.cs∧RI H vp r.pk
section
variable{H:Type}{enc:TypeId×Value→H}{w:World}{sp:Nat→Bool}{held:Bool}{n:Nat}{cs:List Value}{y:DataW H×List MemPlace}{v:Value}{d:DataW H}{p:List MemPlace}{r:Reach}{base:Nat}
theorem Oe(hw:Wt Tryz.prog 35 y.1)(h:DataW.trod enc Tryz.prog w 0 sp held n 35 cs=some y):∃(v:Value) (ls:List F5),cs=[v]∧RF5 (hp w) v ls:=by
 obtain ⟨v,zs,h1,h2,_,h3⟩:=Dc (k:=5) underlying35 underlying151 iw zo eA c_53 hw h;obtain ⟨ls,h4⟩:=Qp h3;exact ⟨v,ls,h1,by unfold RF5;rw [←h4];exact h2⟩
theorem Od(hw:Wt Tryz.prog 36 y.1)(h:DataW.trod enc Tryz.prog w 0 sp held n 36 cs=some y):∃(v:Value) (ls:List F4),cs=[v]∧RF4 (hp w) v ls:=by
 obtain ⟨v,zs,h1,h2,_,h3⟩:=Dc (k:=4) underlying36 underlying97 iw zo eA c_43 hw h;obtain ⟨ls,h4⟩:=Qo h3;exact ⟨v,ls,h1,by unfold RF4;rw [←h4];exact h2⟩
end
end Go.Proofs.YteajddicacjkhaaGreat
namespace Go.Proofs.YteajddicacjkhaaGreat
open Go.MW Go.ChangeShapes Go.WideShapes Tryz
set_option maxRecDepth 100000
theorem Vz:Tryz.prog.cellsOf 4=1:=by kernel_rfl
theorem Sy:Tryz.prog.cellsOf 119=1:=by kernel_rfl
section
variable{H:Type}{enc:TypeId×Value→H}{w:World}{sp:Nat→Bool}{held:Bool}{n:Nat}{cs:List Value}{y:DataW H×List MemPlace}{v:Value}{d:DataW H}{p:List MemPlace}{r:Reach}{base:Nat}
end
end Go.Proofs.YteajddicacjkhaaGreat
namespace Go.Proofs.YteajddicacjkhaaGreat
open Go.MW Go.ChangeShapes Go.WideShapes Tryz
set_option maxRecDepth 100000
theorem I3:Tryz.prog.cellsOf 42=2:=by kernel_rfl
section
variable{H:Type}{enc:TypeId×Value→H}{w:World}{sp:Nat→Bool}{held:Bool}{n:Nat}{cs:List Value}{y:DataW H×List MemPlace}{v:Value}{d:DataW H}{p:List MemPlace}{r:Reach}{base:Nat}
theorem Of(h:DataW.trod enc Tryz.prog w 0 sp held n 42 cs=some y):∃a b:Int,cs=[I a,I b]∧I64 a∧I64 b:=by
 obtain ⟨xs,a1,a2,a3⟩:=EF underlying42 (by
  intro i f hf
  match i with
  |0|1=>cases hf;exact ⟨rfl,iw,zo⟩
  |i+2=>simp at hf) (by rw [I3];rfl) h
 obtain ⟨a,b,rfl⟩:=V7 a1;exact ⟨a,b,a2,a3 a bK,a3 b bK⟩
end
end Go.Proofs.YteajddicacjkhaaGreat
namespace Go.Proofs.YteajddicacjkhaaGreat
open Go.MW Go.ChangeShapes Go.WideShapes Tryz
set_option maxRecDepth 100000
theorem Pe:Tryz.prog.cellsOf 40=1:=by kernel_rfl
theorem Vy:Tryz.prog.cellsOf 96=6:=by kernel_rfl
theorem Sz:Tryz.prog.cellsOf 44=14:=by kernel_rfl
theorem Xh{α:Type}{l:List α}(h:l.length=14):∃a b c d e f g i j k m n o p,l=[a,b,c,d,e,f,g,i,j,k,m,n,o,p]:=by match l,h with|[a,b,c,d,e,f,g,i,j,k,m,n,o,p],_=>exact ⟨a,b,c,d,e,f,g,i,j,k,m,n,o,p,rfl⟩
section
variable{H:Type}{enc:TypeId×Value→H}{w:World}{sp:Nat→Bool}{held:Bool}{n:Nat}{cs:List Value}{y:DataW H×List MemPlace}{v:Value}{d:DataW H}{p:List MemPlace}{r:Reach}{base:Nat}
theorem Oc(hw:Wt Tryz.prog 40 y.1)(h:DataW.trod enc Tryz.prog w 0 sp held n 40 cs=some y):∃(v:Value) (ls:List Sx),cs=[v]∧RS (hp w) 6 v (ls.map Sx.v):=by
 obtain ⟨v,zs,h1,h2,_,h3⟩:=Dc (k:=6) underlying40 underlying96 iw zo eA Vy hw h;obtain ⟨ls,h4,_⟩:=all_map (f:=Sx.v) (Q:=fun _=>True) (css:=zs.map Is) fun c hc=>by
  obtain ⟨z,hz,rfl⟩:=List.mem_map.1 hc;obtain ⟨a,b,c,d,e,f,rfl⟩:=len6 (h3 z hz).1;exact ⟨⟨a,b,c,d,e,f⟩,rfl,trivial⟩
 exact ⟨v,ls,h1,by rw [←h4];exact h2⟩
theorem TU(hw:Wt Tryz.prog 39 y.1)(h:DataW.trod enc Tryz.prog w 0 sp held n 39 cs=some y):∃q:ab6,Z8 (hp w) (.agg cs.toArray) q:=by
 obtain ⟨ys,m,_,rfl,hlen,tg,hg⟩:=DataW.trod_struct Gd h;rw [M1] at hlen;obtain ⟨c0,c1,c2,c3,c4,c5,c6,rfl⟩:=len7 hlen;obtain ⟨_,h0,k0⟩:=fld hg tg 0 rfl rfl rfl M0 Gd hw;obtain ⟨_,h1,k1⟩:=fld hg tg 1 rfl rfl rfl Pg Gd hw;obtain ⟨_,h2,k2⟩:=fld hg tg 2 rfl rfl rfl Pf Gd hw;obtain ⟨_,h3,k3⟩:=fld hg tg 3 rfl rfl rfl M0 Gd hw;obtain ⟨_,h4,k4⟩:=fld hg tg 4 rfl rfl rfl WN Gd hw;obtain ⟨v0,s0,e0,r0,i0⟩:=La k0 h0;obtain ⟨v1,l1,e1,r1⟩:=Oe k1 h1;obtain ⟨v2,l2,e2,r2⟩:=Od k2 h2;obtain ⟨v3,s3,e3,r3,i3⟩:=La k3 h3;obtain ⟨xs,g1,g2,g3⟩:=Db underlying37 iw zo WN h4;obtain ⟨a,b,c,rfl⟩:=aav g1;cases e0;cases e1;cases e2;cases e3;cases g2
 exact ⟨⟨s0,l1,l2,s3,a,b,c⟩,⟨_,_,_,_,rfl,r0,r1,r2,r3⟩⟩
theorem Jw(hv:Value.okWide Tryz.prog w r base 44 v)(h:DataW.Trod enc Tryz.prog w 0 sp held 44 v d p)(hw:Wt Tryz.prog 44 d):∃x:SG,(∃vs v5 v4 vp vn vg,v=x.agg vs v5 v4 vp vn vg∧J7 (hp w) x vs v5 v4 vp vn vg)∧I64 x.m1∧I64 x.m2:=by
 obtain ⟨cs,n,rfl,hn,_⟩:=CR w6 hv h;obtain ⟨ys,m,_,e,hlen,tg,hg⟩:=DataW.trod_struct w6 hn;cases e
 rw [Sz] at hlen;obtain ⟨c0,c1,c2,c3,c4,c5,c6,c7,c8,c9,c10,c11,c12,c13,rfl⟩:=Xh hlen;obtain ⟨_,h0,k0⟩:=fld hg tg 0 rfl rfl rfl M1 w6 hw;obtain ⟨_,h1,k1⟩:=fld hg tg 1 rfl rfl rfl M0 w6 hw;obtain ⟨_,h2,k2⟩:=fld hg tg 2 rfl rfl rfl Pe w6 hw;obtain ⟨_,h3,k3⟩:=fld hg tg 3 rfl rfl rfl I3 w6 hw;obtain ⟨_,h4,k4⟩:=fld hg tg 4 rfl rfl rfl WN w6 hw;obtain ⟨q,vs,v5,v4,vp,e0,r0,r1,r2,r3⟩:=TU k0 h0;obtain ⟨vn,ns,e1,r4,_⟩:=La k1 h1;obtain ⟨vg,sx,e2,r5⟩:=Oc k2 h2;obtain ⟨m1,m2,e3,i1,i2⟩:=Of h3;obtain ⟨xs,g1,e4,g3⟩:=Db underlying37 iw zo WN h4;obtain ⟨a,b,c,rfl⟩:=aav g1;cases e0;cases e1;cases e2;cases e3;cases e4
 exact ⟨⟨q.sp,q.rs,q.cs,q.pk,q.x,q.y,q.z,ns,sx,m1,m2,a,b,c⟩,⟨_,_,_,_,_,_,rfl,r0,r1,r2,r3,r4,r5⟩,i1,i2⟩
end
end Go.Proofs.YteajddicacjkhaaGreat
namespace Go.Proofs.YteajddicacjkhaaGreat
open Go.MW Go.ChangeShapes Go.WideShapes Tryz
set_option maxRecDepth 100000
structure WX where
 leg:Int
 mass:Int
 near:Bool
 ls:List Tri
 m:Int
 us:List Use
def SH(H:cK)(v:Value)(c:WX):Prop:=∃vl vu,v= .agg #[I c.leg,I c.mass,.bool c.near,vl,I c.m,vu]∧RS H 3 vl (c.ls.map Tri.v)∧RU H vu c.us
theorem Ph:Tryz.prog.cellsOf 124=6:=by kernel_rfl
theorem Xg{α:Type}{l:List α}(h:l.length=6):∃a b c d e f,l=[a,b,c,d,e,f]:=by match l,h with|[a,b,c,d,e,f],_=>exact ⟨a,b,c,d,e,f,rfl⟩
section
variable{H:Type}{enc:TypeId×Value→H}{w:World}{sp:Nat→Bool}{held:Bool}{n:Nat}{cs:List Value}{y:DataW H×List MemPlace}{v:Value}{d:DataW H}{p:List MemPlace}{r:Reach}{base:Nat}
theorem GJ(hv:Value.okWide Tryz.prog w r base 124 v)(h:DataW.Trod enc Tryz.prog w 0 sp held 124 v d p)(hw:Wt Tryz.prog 124 d):∃c:WX,SH (hp w) v c∧(I64 c.leg∧I64 c.mass):=by
 obtain ⟨cs,n,rfl,hn,_⟩:=CR tx hv h;obtain ⟨ys,m,_,e,hlen,tg,hg⟩:=DataW.trod_struct tx hn;cases e
 rw [Ph] at hlen;obtain ⟨c0,c1,c2,c3,c4,c5,rfl⟩:=Xg hlen;obtain ⟨_,h0,k0⟩:=fld hg tg 0 rfl rfl rfl zo tx hw;obtain ⟨_,h1,k1⟩:=fld hg tg 1 rfl rfl rfl zo tx hw;obtain ⟨_,h2,k2⟩:=fld hg tg 2 rfl rfl rfl Vz tx hw;obtain ⟨_,h3,k3⟩:=fld hg tg 3 rfl rfl rfl Sy tx hw;obtain ⟨_,h4,k4⟩:=fld hg tg 4 rfl rfl rfl M3 tx hw;obtain ⟨x,e0,i0⟩:=Cm iw h0;obtain ⟨x1,e1,i1⟩:=Cm iw h1;obtain ⟨b,e2,_⟩:=DataW.trod_bool underlying4 h2;obtain ⟨vl,ls,e3,r3,_⟩:=TT k3 h3;obtain ⟨m,us,u,e4,r4,_,_⟩:=Q4 k4 h4;cases e0;cases e1;cases e2;cases e3;cases e4
 exact ⟨⟨x,x1,b,ls,m,us⟩,⟨_,_,rfl,r3,r4⟩,i0,i1⟩
end
end Go.Proofs.YteajddicacjkhaaGreat
namespace Go.Proofs.YteajddicacjkhaaGreat
theorem Sv:Tryz.prog.make=some .cut:=by kernel_rfl
theorem Pc:Tryz.prog.mayEnter=true:=by kernel_rfl
theorem O9:Tryz.prog.liftsFinal=false:=by kernel_rfl
theorem Sw:Tryz.prog.plainKeys=true:=by kernel_rfl
theorem MZ:laidOutB Tryz.prog=true:=by kernel_rfl
theorem Su:mapsRowed Tryz.prog=true:=by kernel_rfl
theorem Pb:Tryz.prog.stopsHeard=true:=by kernel_rfl
theorem O8:Tryz.prog.stops=[]:=by kernel_rfl
theorem Pa:Tryz.prog.stopKnobs=[]:=by kernel_rfl
theorem uG{a b:Bool}(h:a=true)(k:b=true):(a&&b)=true:=by rw [h,k];rfl
theorem VB{α:Type}[BEq α][LawfulBEq α]{a b:α}(h:a=b):(a==b)=true:=by rw [h];exact beq_self_eq_true _
theorem Vw:ownKnob Tryz.prog.godebug=none:=by kernel_rfl
end Go.Proofs.YteajddicacjkhaaGreat
namespace Go.Proofs.YteajddicacjkhaaGreat
open Go.MW Tryz
variable{H:cK}{σ:List Ent}{a0 a1 a2 m most a hi lo f d e z1 z2 z3:Int}{l:Lns}{ls:List Lim}{g b k bf bt bl cl i j bm:Nat}{cap sp:List Value}{s:Spc}{xs ts lf ws L X Y l1 l2 sl pk:List Int}{en:Ent}{vl vt vp vw vm vb v1 v2 cU cO vr vc vh vs v5 v4 gZ:Value}{Ms rows:List (List Int)}{us:List Use}{x:Lg}{t:TD}{high:Bool}{iB:List F5}{iP:List F4}
theorem mix:Tryz.prog.follows .mixedOrders=true:=by kernel_rfl
theorem eY:FA Tryz.prog 25 0 0:=by
 have h:=gw (k:=0) HO rfl ak;exact h
theorem jN:FA Tryz.prog 25 1 1:=by
 have h:=gw (k:=1) HO rfl ak;exact h
theorem de:FA Tryz.prog 25 2 2:=by
 have h:=gw (k:=2) HO rfl sizeOf22;exact h
theorem du:FA Tryz.prog 25 3 3:=by
 have h:=gw (k:=3) HO rfl sizeOf23;exact h
theorem cH:FA Tryz.prog 28 0 0:=by
 have h:=gw (k:=0) runUnderlying28 rfl sizeOf26;exact h
theorem sr:FA Tryz.prog 39 0 0:=by
 have h:=gw (k:=0) HN rfl aO;exact h
theorem j8:FA Tryz.prog 39 1 1:=by
 have h:=gw (k:=1) HN rfl sizeOf35;exact h
theorem mG:FA Tryz.prog 39 2 2:=by
 have h:=gw (k:=2) HN rfl sizeOf36;exact h
theorem sq:FA Tryz.prog 39 3 3:=by
 have h:=gw (k:=3) HN rfl aO;exact h
theorem so:FA Tryz.prog 39 4 4:=by
 have h:=gw (k:=4) HN rfl BL;exact h
theorem bH:FA Tryz.prog 42 0 0:=by
 have h:=gw (k:=0) runUnderlying42 rfl ak;exact h
theorem cP:FA Tryz.prog 42 1 1:=by
 have h:=gw (k:=1) runUnderlying42 rfl ak;exact h
theorem sm:FA Tryz.prog 44 0 0:=by
 have h:=gw (k:=0) runUnderlying44 rfl sizeOf39;exact h
theorem sj:FA Tryz.prog 44 1 7:=by
 have h:=gw (k:=1) runUnderlying44 rfl aO;exact h
theorem si:FA Tryz.prog 44 2 8:=by
 have h:=gw (k:=2) runUnderlying44 rfl sizeOf40;exact h
theorem sh:FA Tryz.prog 44 4 11:=by
 have h:=gw (k:=4) runUnderlying44 rfl BL;exact h
theorem lS:FA Tryz.prog 46 0 0:=by
 have h:=gw (k:=0) runUnderlying46 rfl ak;exact h
theorem lR:FA Tryz.prog 46 1 1:=by
 have h:=gw (k:=1) runUnderlying46 rfl ak;exact h
theorem oY:FA Tryz.prog 48 0 0:=by
 have h:=gw (k:=0) wR rfl ak;exact h
theorem eM:FA Tryz.prog 48 1 1:=by
 have h:=gw (k:=1) wR rfl ak;exact h
theorem bV:FA Tryz.prog 48 2 2:=by
 have h:=gw (k:=2) wR rfl aO;exact h
theorem aZ:FA Tryz.prog 48 3 3:=by
 have h:=gw (k:=3) wR rfl aO;exact h
theorem eW:FA Tryz.prog 48 4 4:=by
 have h:=gw (k:=4) wR rfl sizeOf46;exact h
theorem a6:FA Tryz.prog 52 0 0:=by
 have h:=gw (k:=0) runUnderlying52 rfl bq;exact h
theorem aP:FA Tryz.prog 52 1 6:=by
 have h:=gw (k:=1) runUnderlying52 rfl sizeOf49;exact h
theorem cQ:FA Tryz.prog 52 2 7:=by
 have h:=gw (k:=2) runUnderlying52 rfl sizeOf50;exact h
theorem nx:FA Tryz.prog 64 0 0:=by
 have h:=gw (k:=0) runUnderlying64 rfl sizeOf62;exact h
theorem kP:FA Tryz.prog 66 0 0:=by
 have h:=gw (k:=0) HM rfl ak;exact h
theorem qP:FA Tryz.prog 66 1 1:=by
 have h:=gw (k:=1) HM rfl ak;exact h
theorem qO:FA Tryz.prog 66 2 2:=by
 have h:=gw (k:=2) HM rfl ak;exact h
theorem qN:FA Tryz.prog 66 3 3:=by
 have h:=gw (k:=3) HM rfl sizeOf64;exact h
theorem mH:FA Tryz.prog 87 0 0:=by
 have h:=gw (k:=0) wQ rfl ak;exact h
theorem gR:FA Tryz.prog 87 1 1:=by
 have h:=gw (k:=1) wQ rfl ak;exact h
theorem gQ:FA Tryz.prog 87 2 2:=by
 have h:=gw (k:=2) wQ rfl ak;exact h
theorem fA:FA Tryz.prog 87 3 3:=by
 have h:=gw (k:=3) wQ rfl aH;exact h
theorem iM:FA Tryz.prog 87 4 5:=by
 have h:=gw (k:=4) wQ rfl aH;exact h
theorem fy:FA Tryz.prog 100 0 0:=by
 have h:=gw (k:=0) kZ rfl ak;exact h
theorem iD:FA Tryz.prog 100 1 1:=by
 have h:=gw (k:=1) kZ rfl ak;exact h
theorem iC:FA Tryz.prog 100 2 2:=by
 have h:=gw (k:=2) kZ rfl ak;exact h
theorem dQ:FA Tryz.prog 100 3 3:=by
 have h:=gw (k:=3) kZ rfl ak;exact h
theorem dI:FA Tryz.prog 100 4 4:=by
 have h:=gw (k:=4) kZ rfl ak;exact h
theorem fw:FA Tryz.prog 100 5 5:=by
 have h:=gw (k:=5) kZ rfl ak;exact h
theorem fu:FA Tryz.prog 100 6 6:=by
 have h:=gw (k:=6) kZ rfl ak;exact h
theorem kb:FA Tryz.prog 104 0 0:=by
 have h:=gw (k:=0) Ew rfl ak;exact h
theorem fm:FA Tryz.prog 104 1 1:=by
 have h:=gw (k:=1) Ew rfl ak;exact h
theorem fl:FA Tryz.prog 104 2 2:=by
 have h:=gw (k:=2) Ew rfl ak;exact h
theorem ka:FA Tryz.prog 104 3 3:=by
 have h:=gw (k:=3) Ew rfl ak;exact h
theorem ql:FA Tryz.prog 113 0 0:=by
 have h:=gw (k:=0) aan rfl ak;exact h
theorem fM:FA Tryz.prog 113 1 1:=by
 have h:=gw (k:=1) aan rfl ak;exact h
theorem eP:FA Tryz.prog 113 2 2:=by
 have h:=gw (k:=2) aan rfl ak;exact h
theorem eX:FA Tryz.prog 122 0 0:=by
 have h:=gw (k:=0) runUnderlying122 rfl ak;exact h
theorem ez:FA Tryz.prog 122 1 1:=by
 have h:=gw (k:=1) runUnderlying122 rfl sizeOf120;exact h
theorem qk:FA Tryz.prog 124 0 0:=by
 have h:=gw (k:=0) Ev rfl ak;exact h
theorem jB:FA Tryz.prog 124 1 1:=by
 have h:=gw (k:=1) Ev rfl ak;exact h
theorem lP:FA Tryz.prog 124 2 2:=by
 have h:=gw (k:=2) Ev rfl HK;exact h
theorem qj:FA Tryz.prog 124 3 3:=by
 have h:=gw (k:=3) Ev rfl sizeOf119;exact h
theorem lO:FA Tryz.prog 124 4 4:=by
 have h:=gw (k:=4) Ev rfl bQ;exact h
theorem bZ:FA Tryz.prog 134 0 0:=by
 have h:=gw (k:=0) runUnderlying134 rfl ak;exact h
theorem dW:FA Tryz.prog 134 1 1:=by
 have h:=gw (k:=1) runUnderlying134 rfl ak;exact h
theorem nW:FA Tryz.prog 140 0 0:=by
 have h:=gw (k:=0) Eu rfl aK;exact h
theorem lQ:FA Tryz.prog 140 2 12:=by
 have h:=gw (k:=2) Eu rfl sizeOf26;exact h
theorem nV:FA Tryz.prog 140 3 13:=by
 have h:=gw (k:=3) Eu rfl sizeOf80;exact h
theorem j9:FA Tryz.prog 140 4 14:=by
 have h:=gw (k:=4) Eu rfl aO;exact h
theorem jI:FA Tryz.prog 153 0 0:=by
 have h:=gw (k:=0) nF rfl ak;exact h
theorem kQ:FA Tryz.prog 153 1 1:=by
 have h:=gw (k:=1) nF rfl ak;exact h
theorem iE:FA Tryz.prog 153 2 2:=by
 have h:=gw (k:=2) nF rfl ak;exact h
theorem gJ:FA Tryz.prog 153 3 3:=by
 have h:=gw (k:=3) nF rfl ak;exact h
theorem gI:FA Tryz.prog 153 4 4:=by
 have h:=gw (k:=4) nF rfl ak;exact h
theorem gH:FA Tryz.prog 153 5 5:=by
 have h:=gw (k:=5) nF rfl ak;exact h
theorem qQ:FA Tryz.prog 162 0 0:=by
 have h:=gw (k:=0) nE rfl ak;exact h
theorem mX:FA Tryz.prog 162 1 1:=by
 have h:=gw (k:=1) nE rfl ak;exact h
theorem cz:FA Tryz.prog 177 0 0:=by
 have h:=gw (k:=0) runUnderlying177 rfl ak;exact h
theorem cn:FA Tryz.prog 177 1 1:=by
 have h:=gw (k:=1) runUnderlying177 rfl sizeOf175;exact h
theorem j7:FA Tryz.prog 179 0 0:=by
 have h:=gw (k:=0) aam rfl aQ;exact h
theorem mF:FA Tryz.prog 179 1 2:=by
 have h:=gw (k:=1) aam rfl aO;exact h
theorem fY:FA Tryz.prog 179 2 3:=by
 have h:=gw (k:=2) aam rfl ak;exact h
theorem eo:FA Tryz.prog 190 0 0:=by
 have h:=gw (k:=0) aal rfl ak;exact h
theorem dM:FA Tryz.prog 190 1 1:=by
 have h:=gw (k:=1) aal rfl ak;exact h
theorem fH:FA Tryz.prog 190 2 2:=by
 have h:=gw (k:=2) aal rfl ak;exact h
theorem eN:FA Tryz.prog 193 0 0:=by
 have h:=gw (k:=0) Et rfl ak;exact h
theorem eZ:FA Tryz.prog 193 1 1:=by
 have h:=gw (k:=1) Et rfl ak;exact h
theorem fN:FA Tryz.prog 193 2 2:=by
 have h:=gw (k:=2) Et rfl ak;exact h
theorem mn:FA Tryz.prog 193 3 3:=by
 have h:=gw (k:=3) Et rfl ak;exact h
theorem iL:FA Tryz.prog 199 0 0:=by
 have h:=gw (k:=0) runUnderlying199 rfl ak;exact h
theorem ft:FA Tryz.prog 199 1 1:=by
 have h:=gw (k:=1) runUnderlying199 rfl ak;exact h
theorem xY:FA Tryz.prog 236 0 0:=by
 have h:=gw (k:=0) aak rfl sizeOf233;exact h
theorem xX:FA Tryz.prog 236 1 1:=by
 have h:=gw (k:=1) aak rfl sizeOf234;exact h
theorem xW:FA Tryz.prog 236 2 2:=by
 have h:=gw (k:=2) aak rfl ak;exact h
theorem dH:FA Tryz.prog 241 0 0:=by
 have h:=gw (k:=0) runUnderlying241 rfl ku;exact h
theorem gU:FA Tryz.prog 241 1 3:=by
 have h:=gw (k:=1) runUnderlying241 rfl bq;exact h
theorem eC:FA Tryz.prog 246 0 0:=by
 have h:=gw (k:=0) aaj rfl aK;exact h
theorem iK:FA Tryz.prog 246 1 8:=by
 have h:=gw (k:=1) aaj rfl sizeOf159;exact h
theorem lN:FA Tryz.prog 246 2 9:=by
 have h:=gw (k:=2) aaj rfl sizeOf175;exact h
theorem jo:FA Tryz.prog 272 0 0:=by
 have h:=gw (k:=0) aai rfl aQ;exact h
theorem jn:FA Tryz.prog 272 1 2:=by
 have h:=gw (k:=1) aai rfl aO;exact h
theorem eV:FA Tryz.prog 272 2 3:=by
 have h:=gw (k:=2) aai rfl aO;exact h
theorem dV:FA Tryz.prog 303 0 0:=by
 have h:=gw (k:=0) Es rfl ak;exact h
theorem eu:FA Tryz.prog 303 1 1:=by
 have h:=gw (k:=1) Es rfl ak;exact h
theorem ic:FA Tryz.prog 303 2 2:=by
 have h:=gw (k:=2) Es rfl ak;exact h
theorem eU:FA Tryz.prog 303 3 3:=by
 have h:=gw (k:=3) Es rfl ak;exact h
theorem iS:FA Tryz.prog 315 0 0:=by
 have h:=gw (k:=0) runUnderlying315 rfl ak;exact h
theorem kK:FA Tryz.prog 315 1 1:=by
 have h:=gw (k:=1) runUnderlying315 rfl ak;exact h
theorem tG:FA Tryz.prog 317 0 0:=by
 have h:=gw (k:=0) runUnderlying317 rfl aO;exact h
theorem dP:FA Tryz.prog 337 0 0:=by
 have h:=gw (k:=0) runUnderlying337 rfl ak;exact h
theorem lZ:FA Tryz.prog 337 1 1:=by
 have h:=gw (k:=1) runUnderlying337 rfl HK;exact h
theorem wH:tu Tryz.prog 25 [(0,1),(1,1),(2,1),(3,1)] [I 0,I 0,.slice none 0 0,.slice none 0 0]:=lq o6 rfl HO bK
theorem qm:tu Tryz.prog 28 [(0,1)] [.slice none 0 0]:=lq tw rfl runUnderlying28 bK
theorem bL:tu Tryz.prog 42 [(0,1),(1,1)] [I 0,I 0]:=lq dy rfl runUnderlying42 bK
theorem yC:tu Tryz.prog 46 [(0,1),(1,1)] [I 0,I 0]:=lq zeroValue46 rfl runUnderlying46 bK
theorem wG:tu Tryz.prog 48 [(0,1),(1,1),(2,1),(3,1),(4,2)] [I 0,I 0,.slice none 0 0,.slice none 0 0,I 0,I 0]:=lq tv rfl wR bK
theorem tK:tu Tryz.prog 52 [(0,6),(6,1),(7,1)] [I 0,I 0,.slice none 0 0,.slice none 0 0,I 0,I 0,.slice none 0 0,.slice none 0 0]:=lq js rfl runUnderlying52 bK
theorem F0:tu Tryz.prog 64 [(0,1)] [.slice none 0 0]:=lq zeroValue64 rfl runUnderlying64 bK
theorem Bm:tu Tryz.prog 66 [(0,1),(1,1),(2,1),(3,1)] [I 0,I 0,I 0,.slice none 0 0]:=lq zeroValue66 rfl HM bK
theorem mh:tu Tryz.prog 87 [(0,1),(1,1),(2,1),(3,2),(5,2)] [I 0,I 0,I 0,I 0,I 0,I 0,I 0]:=lq fg rfl wQ bK
theorem kg:tu Tryz.prog 100 [(0,1),(1,1),(2,1),(3,1),(4,1),(5,1),(6,1)] [I 0,I 0,I 0,I 0,I 0,I 0,I 0]:=lq jW rfl kZ bK
theorem tL:tu Tryz.prog 104 [(0,1),(1,1),(2,1),(3,1)] [I 0,I 0,I 0,I 0]:=lq Gc rfl Ew bK
theorem sD:tu Tryz.prog 113 [(0,1),(1,1),(2,1)] [I 0,I 0,I 0]:=lq zeroValue113 rfl aan bK
theorem jC:tu Tryz.prog 122 [(0,1),(1,1)] [I 0,.slice none 0 0]:=lq ju rfl runUnderlying122 bK
theorem jr:tu Tryz.prog 134 [(0,1),(1,1)] [I 0,I 0]:=lq np rfl runUnderlying134 bK
theorem iU:tu Tryz.prog 140 [(0,8),(8,4),(12,1),(13,1),(14,1)] [I 0,I 0,.slice none 0 0,.slice none 0 0,I 0,I 0,.slice none 0 0,.slice none 0 0,I 0,I 0,.slice none 0 0,.slice none 0 0,.slice none 0 0,.slice none 0 0,.slice none 0 0]:=lq w5 rfl Eu bK
theorem sE:tu Tryz.prog 153 [(0,1),(1,1),(2,1),(3,1),(4,1),(5,1)] [I 0,I 0,I 0,I 0,I 0,I 0]:=lq Tr rfl nF bK
theorem kf:tu Tryz.prog 162 [(0,1),(1,1)] [I 0,I 0]:=lq wZ rfl nE bK
theorem kL:tu Tryz.prog 177 [(0,1),(1,1)] [I 0,.slice none 0 0]:=lq fb rfl runUnderlying177 bK
theorem jd:tu Tryz.prog 179 [(0,2),(2,1),(3,1)] [I 0,.slice none 0 0,.slice none 0 0,I 0]:=lq wY rfl aam bK
theorem wF:tu Tryz.prog 190 [(0,1),(1,1),(2,1)] [I 0,I 0,I 0]:=lq wX rfl aal bK
theorem fO:tu Tryz.prog 193 [(0,1),(1,1),(2,1),(3,1)] [I 0,I 0,I 0,I 0]:=lq gz rfl Et bK
theorem Hs:tu Tryz.prog 199 [(0,1),(1,1)] [I 0,I 0]:=lq Gb rfl runUnderlying199 bK
theorem kS:tu Tryz.prog 236 [(0,1),(1,1),(2,1)] [.nilFunc,.nilFunc,I 0]:=lq zeroValue236 rfl aak bK
theorem zx:tu Tryz.prog 241 [(0,3),(3,6)] [I 0,I 0,I 0,I 0,I 0,.slice none 0 0,.slice none 0 0,I 0,I 0]:=lq zeroValue241 rfl runUnderlying241 bK
theorem yc:tu Tryz.prog 246 [(0,8),(8,1),(9,1)] [I 0,I 0,.slice none 0 0,.slice none 0 0,I 0,I 0,.slice none 0 0,.slice none 0 0,.slice none 0 0,.slice none 0 0]:=lq zeroValue246 rfl aaj bK
theorem tJ:tu Tryz.prog 272 [(0,2),(2,1),(3,1)] [I 0,.slice none 0 0,.slice none 0 0,.slice none 0 0]:=lq zeroValue272 rfl aai bK
theorem tI:tu Tryz.prog 303 [(0,1),(1,1),(2,1),(3,1)] [I 0,I 0,I 0,I 0]:=lq jt rfl Es bK
theorem wI:tu Tryz.prog 315 [(0,1),(1,1)] [I 0,I 0]:=lq Tq rfl runUnderlying315 bK
theorem D6:tu Tryz.prog 317 [(0,1)] [.slice none 0 0]:=lq zeroValue317 rfl runUnderlying317 bK
theorem ke:tu Tryz.prog 337 [(0,1),(1,1)] [I 0,.bool false]:=lq zeroValue337 rfl runUnderlying337 bK
theorem rh:zD Tryz.prog 22 2 2 [I 0,I 0,I 0,I 0]:=oa bB db np eA aD
theorem rf:zD Tryz.prog 22 3 2 [I 0,I 0,I 0,I 0,I 0,I 0]:=oa bB db np eA aD
theorem nZ:zD Tryz.prog 23 1 4 [I 0,I 0,I 0,I 0]:=oa cf eE Gc eA aD
theorem nb:zD Tryz.prog 26 1 7 [I 0,I 0,I 0,I 0,I 0,I 0,I 0]:=oa aV bg fg eA aD
theorem na:zD Tryz.prog 26 2 7 [I 0,I 0,I 0,I 0,I 0,I 0,I 0,I 0,I 0,I 0,I 0,I 0,I 0,I 0]:=oa aV bg fg eA aD
theorem sC:zD Tryz.prog 34 0 1 []:=oa ae ak dA eA aD
theorem dw:zD Tryz.prog 34 1 1 [I 0]:=oa ae ak dA eA aD
theorem mJ:zD Tryz.prog 34 2 1 [I 0,I 0]:=oa ae ak dA eA aD
theorem FZ:zD Tryz.prog 34 3 1 [I 0,I 0,I 0]:=oa ae ak dA eA aD
theorem jc:zD Tryz.prog 49 1 7 [I 0,I 0,I 0,I 0,I 0,I 0,I 0]:=oa aE bh jW eA aD
theorem tt:zD Tryz.prog 49 4 7 [I 0,I 0,I 0,I 0,I 0,I 0,I 0,I 0,I 0,I 0,I 0,I 0,I 0,I 0,I 0,I 0,I 0,I 0,I 0,I 0,I 0,I 0,I 0,I 0,I 0,I 0,I 0,I 0]:=oa aE bh jW eA aD
theorem nk:zD Tryz.prog 50 1 6 [I 0,I 0,I 0,I 0,I 0,I 0]:=oa bM eD Tr eA aD
theorem Ce:zD Tryz.prog 62 1 1 [.slice none 0 0]:=oa aC aO ir eA aD
theorem Cd:zD Tryz.prog 62 2 1 [.slice none 0 0,.slice none 0 0]:=oa aC aO ir eA aD
theorem oL:zD Tryz.prog 80 1 2 [I 0,I 0]:=oa kj aH dy eA aD
theorem qR:zD Tryz.prog 120 0 2 []:=oa dq jL Gb eA aD
theorem zu:zD Tryz.prog 120 1 2 [I 0,I 0]:=oa dq jL Gb eA aD
theorem kF:zD Tryz.prog 159 1 2 [I 0,I 0]:=oa cI dF wZ eA aD
theorem wD:zD Tryz.prog 175 1 4 [I 0,I 0,I 0,I 0]:=oa bj cD gz eA aD
theorem iN:zD Tryz.prog 175 2 4 [I 0,I 0,I 0,I 0,I 0,I 0,I 0,I 0]:=oa bj cD gz eA aD
theorem D5:zD Tryz.prog 247 6 1 [.nilFunc,.nilFunc,.nilFunc,.nilFunc,.nilFunc,.nilFunc]:=oa runUnderlying247 sizeOf1 zeroValue1 eA aD
theorem uF:zD Tryz.prog 267 1 4 [I 0,I 0,I 0,I 0]:=oa aN bD jt eA aD
theorem wE:zD Tryz.prog 312 1 2 [I 0,I 0]:=oa tz Ka Tq eA aD
theorem nz:Jd Tryz.prog 23 23 104 4 32:=⟨cf,cf,eE,⟨_,typeInfo104,rfl,by decide⟩,⟨_,Gc,rfl⟩⟩
theorem rj:Jd Tryz.prog 26 26 87 7 56:=⟨aV,aV,bg,⟨_,typeInfo87,rfl,by decide⟩,⟨_,fg,rfl⟩⟩
theorem df:Jd Tryz.prog 34 34 3 1 8:=⟨ae,ae,ak,⟨_,jK,rfl,by decide⟩,⟨_,dA,rfl⟩⟩
theorem eT:Jd Tryz.prog 49 49 100 7 56:=⟨aE,aE,bh,⟨_,typeInfo100,rfl,by decide⟩,⟨_,jW,rfl⟩⟩
theorem mL:Jd Tryz.prog 50 50 153 6 48:=⟨bM,bM,eD,⟨_,typeInfo153,rfl,by decide⟩,⟨_,Tr,rfl⟩⟩
theorem uH:Jd Tryz.prog 62 62 34 1 24:=⟨aC,aC,aO,⟨_,typeInfo34,rfl,by decide⟩,⟨_,ir,rfl⟩⟩
theorem ot:Jd Tryz.prog 80 80 42 2 16:=⟨kj,kj,aH,⟨_,typeInfo42,rfl,by decide⟩,⟨_,dy,rfl⟩⟩
theorem ij:Jd Tryz.prog 120 120 199 2 16:=⟨dq,dq,jL,⟨_,typeInfo199,rfl,by decide⟩,⟨_,Gb,rfl⟩⟩
theorem fZ:Jd Tryz.prog 159 159 162 2 16:=⟨cI,cI,dF,⟨_,typeInfo162,rfl,by decide⟩,⟨_,wZ,rfl⟩⟩
theorem dx:Jd Tryz.prog 175 175 193 4 32:=⟨bj,bj,cD,⟨_,typeInfo193,rfl,by decide⟩,⟨_,gz,rfl⟩⟩
theorem ny:Jd Tryz.prog 267 267 303 4 32:=⟨aN,aN,bD,⟨_,aah,rfl,by decide⟩,⟨_,jt,rfl⟩⟩
theorem ou:Jd Tryz.prog 312 312 315 2 16:=⟨tz,tz,Ka,⟨_,typeInfo315,rfl,by decide⟩,⟨_,Tq,rfl⟩⟩
theorem ff{w:World}(hs:St H w σ):ab8 199 [I a0,I a1,I a2] w fun v w'=>v= .bool (decide (a1≤a0∧a0≤a2))∧St H w' σ:=by
 refine Cl.o func199 ntmps199 ag3 ?_;refine .af (.zn zg (.af (.z zm (.z zm (.z pc (.z zm (.ie (t':=10) rfl (fun pO=>?_) (fun pO=>?_))))))))
 ·exact .T (.z zm (.T (.z zm (.T (.z pc (.z zpT (.zn zg (.ret (Fin.bu results199 rfl ⟨by simp [*],hs.out⟩)))))))))
 ·exact .Fs 3 3 true (.z zpF (.zn zg (.ret (Fin.bu results199 rfl ⟨by simp [*],hs.out⟩))))
theorem wA{w:World}{many:Int}{l:Lim}(hs:St H w σ):ab8 250 [I many,.agg l.c.toArray] w fun v w'=>v= .bool (l.ok many)∧St H w' σ:=by
 refine Cl.o func250 ntmps250 ag2 ?_;refine .af (.bx hs fun b3 w hs=>?_);refine .zn zg (.af (.z (zfa eN) (.y hs (zld aj) (.z zm (.o (.call PD rfl (ff hs) ?_))))));rintro _ w ⟨rfl,hs⟩;refine .z zm (.bif (t':=9) rfl (fun RV=>?_) (fun RV=>?_))
 ·refine .T (.z (zfa eZ) (.T (.y hs (zld aj) (.T (.z zm (.T (.o (.call PD rfl (ff hs) ?_))))))));rintro _ w ⟨rfl,hs⟩;refine .z zpT (.z zm (.bif (t':=15) rfl (fun Ba=>?_) (fun Ba=>?_)))
  ·refine .T (.z (zfa eN) (.T (.y hs (zld aj) (.T (.z (zfa eZ) (.T (.y hs (zld aj) (.T (.z fU (.z zpT (.z zm (.F1 (t':=22) rfl (fun R3=>?_) (fun R3=>?_)))))))))))))
   ·refine .T (.z (zfa fN) (.T (.y hs (zld aj) (.T (.o (.call PD rfl (ff hs) ?_))))));rintro _ w ⟨rfl,hs⟩;refine .z zpT (.z zm (.bif (t':=27) rfl (fun we=>?_) (fun we=>?_)))
    ·refine .T (.z (zfa mn) (.T (.y hs (zld aj) (.T (.o (.call PD rfl (ff hs) ?_))))));rintro _ w ⟨rfl,hs⟩;exact .z zpT (.zn zg (.ret (Fin.bu results250 rfl ⟨by simp [Lim.ok, *],hs.out⟩)))
    ·exact .Fs 3 22 true (.z zpF (.zn zg (.ret (Fin.bu results250 rfl ⟨by simp [Lim.ok, *],hs.out⟩))))
   ·exact .Fs 3 17 true (.z zpF (.z zm (.Fs 3 22 true (.z zpF (.zn zg (.ret (Fin.bu results250 rfl ⟨by simp [Lim.ok, *],hs.out⟩)))))))
  ·exact .Fs 5 10 true (.z zpF (.z zm (.Fs 3 17 true (.z zpF (.z zm (.Fs 3 22 true (.z zpF (.zn zg (.ret (Fin.bu results250 rfl ⟨by simp [Lim.ok, *],hs.out⟩))))))))))
 ·exact .Fs 4 4 true (.z zpF (.z zm (.Fs 5 10 true (.z zpF (.z zm (.Fs 3 17 true (.z zpF (.z zm (.Fs 3 22 true (.z zpF (.zn zg (.ret (Fin.bu results250 rfl ⟨by simp [Lim.ok, *],hs.out⟩)))))))))))))
theorem Ec{w:World}{v:Value}{p:Lim→Bool}(hs:St H w σ)(hr:RL H v ls)
  (hc:∀args w,(callFunc g args).run Tryz.prog w= .ok (.enter g args) w) (hp:∀w l,St H w σ→ab8 g ([.agg l.c.toArray]++cap) w fun u w'=>u= .bool (p l)∧St H w' σ):
  ab8 277 [v,.func (.func g) #[] cap.toArray] w fun u w'=>u=I (match ls.findIdx? p with|some k=>(k:Int)|none=> -1)∧St H w' σ:=by
 obtain ⟨a,c,rfl⟩:=RS.shape hr;have hl:=(RS.len hr).2.2;refine Cl.o func277 ntmps277 ag2 ?_;refine .af (.zn zg (.seq (.af (.z zm (.q hs (KY hr rfl bj) (.zn zm (.for (N:=(ls.map Lim.c).length) (J:=fun k fr w=>fr=[(1,.func (.func g) #[] cap.toArray),(0,.slice a (ls.map Lim.c).length c)]∧St H w σ∧∀j<k,∀l,ls[j]? =some l→p l=false) ai ?_ ?_ ?_)))))))
 ·exact .mk ⟨rfl,hs,fun j hj=>by omega⟩
 ·rintro k fr w hk ⟨rfl,hs,fa⟩;obtain ⟨l,hl⟩:=nth (l:=ls) (by simpa using hk);refine .block (.af (.z zm (.zn zg (.af (.z zm (.z zm (.z zm (.ixX hs hr rfl rfl bj cD hl rfl ?_))))))));intro sF o14 kE;refine .y hs (zls [_,_,_,_] kT cD) (.o (.sw (first:=[]) rfl rfl hc (hp _ _ hs) ?_));rintro _ w ⟨rfl,hs⟩;refine .nil (.cond rfl (fun dY=>?_) (fun dY=>?_))
  ·exact .af (.z zm (.zn zg (.ret (rB (rT (rB (rT (Fin.bu results277 rfl ⟨by rw [Bf hl dY fa],hs⟩))))))))
  ·exact .skip (nB (nT (.mk ⟨rfl,hs,fW fa hl dY⟩)))
 ·rintro fr w ⟨rfl,hs,fa⟩;exact nT (.af (.zn zg (.ret (Fin.bu results277 rfl ⟨by rw [yB (by simpa using fa)],hs⟩))))
theorem zC{w:World}{v:Value}{p:Lim→Bool}(hs:St H w σ)(hr:RL H v ls)
  (hc:∀args w,(callFunc g args).run Tryz.prog w= .ok (.enter g args) w) (hp:∀w l,St H w σ→ab8 g ([.agg l.c.toArray]++cap) w fun u w'=>u= .bool (p l)∧St H w' σ):
  ab8 248 [v,.func (.func g) #[] cap.toArray] w fun u w'=>u= .bool (ls.any p)∧St H w' σ:=by
 refine Cl.o func248 ntmps248 ag2 ?_;refine .af (.zn zg (.af (.z zm (.z zm (.o (.call call277 rfl (Ec hs hr hc hp) ?_))))));rintro _ w ⟨rfl,hs⟩;exact .z tN (.zn zg (.ret (Fin.bu results248 rfl ⟨by rw [Ht];cases ls.findIdx? p<;>simp<;>omega,hs⟩)))
theorem D4{w:World}{many:Int}{v:Value}{l:Lim}(hs:St H w σ)(hm:Mem σ (.blk b [I many,v])):ab8 249 [.agg l.c.toArray,Pt b] w fun v w'=>v= .bool (!l.ok many)∧St H w' σ:=by
 refine Cl.o func249 ntmps249 ag2 ?_;refine .af (.bx hs fun b2 w hs=>?_);refine .zn zg (.af (.z (zfa cz) (.q hs (eQ rfl aj (.there hm) rfl) (.q hs (nM (vs:=l.c) rfl kT cD) (.o (.call call250 rfl (wA hs) ?_))))));rintro _ w ⟨rfl,hs⟩;exact .z fE (.zn zg (.ret (Fin.bu results249 rfl ⟨rfl,hs.out⟩)))
theorem kR{w:World}{v:Value}{s:dz}(hs:St H w σ)(hr:RSy H v s):ab8 197 [v] w fun v w'=>v=I s.check∧St H w' σ:=by
 obtain ⟨u,rfl,hr⟩:=hr;obtain ⟨a,c,rfl⟩:=RS.shape hr;refine Cl.o func197 ntmps197 ag1 ?_;refine .af (.bx hs fun b1 w hs=>?_);refine .zn zg (.seq (.block (.af (.z (zfa cz) (.y hs (zld aj) (.o (.call PD rfl (ff hs) ?_)))))));rintro _ w ⟨rfl,hs⟩;refine .z fE (.zn zg (.cond rfl (fun hc3=>?_) (fun hc3=>?_)))
 ·exact .af (.zn zg (.ret (rB (rT (Fin.bu results197 rfl ⟨congrArg I (by unfold dz.check;(repeat' split)<;>simp_all<;>omega),hs.out⟩)))))
 ·refine .af (.z (zfa cn) (.y hs (zld fc) (.q hs (KY hr rfl bj) (.z ld (.zn zg (.bA rfl (fun B2=>?_) (fun B2=>?_)))))))
  ·exact .af (.zn zg (.ret (rB (rT (Fin.bu results197 rfl ⟨congrArg I (by unfold dz.check;(repeat' split)<;>simp_all<;>omega),hs.out⟩)))))
  ·refine .af (.z (zfa cn) (.y hs (zld fc) (.q hs (dZ (f:=[]) (c:=[_]) rfl rfl) (.o (.call call248 rfl (zC (p:=fun l=> !l.ok s.many) hs hr call249 (fun w l hs=>D4 hs .here)) ?_)))));rintro _ w ⟨rfl,hs⟩;refine .zn zg (.cond rfl (fun iq=>?_) (fun iq=>?_))
   ·exact .af (.zn zg (.ret (rB (rT (Fin.bu results197 rfl ⟨congrArg I (by unfold dz.check;(repeat' split)<;>simp_all<;>omega),hs.out⟩)))))
   ·exact .skip (nB (nT (.af (.zn zg (.ret (Fin.bu results197 rfl ⟨congrArg I (by unfold dz.check;(repeat' split)<;>simp_all<;>omega),hs.out⟩))))))
theorem wx{s:dz}{u:Value}(aU:s.Ok)(hb:Row H b [I s.many,u])(hr:RL H u s.dt):ItA Tryz.prog 295 [Pt b] H s.dL:=by
 intro l II Ix _ _ hy H0 HS σf w hle CI hs;obtain ⟨a,c,rfl⟩:=RS.shape hr;have Ej:cellAt H0 b 1=some (.slice a (s.dt.map Lim.c).length c):=cellAt.mono (by rw [hb.cell];rfl) hle;have hlen:=aU.len;refine Cl.o func295 ntmps295 ag2 ?_;refine .af (.z (zfa cn) (.y hs (zld fc) (.q hs (KY (hr.mono hle) rfl bj) (.zn zm (.for (N:=(s.dt.map Lim.c).length) (J:=fun k fr w=>fr=[(6,.slice a (s.dt.map Lim.c).length c),(0,.func (.yield l) #[] #[])]∧∃H1 σb,HLe H H1∧HLe H0 H1∧II k H1 σb∧St H1 w (σb++σf)) (by simp;omega) ?_ ?_ ?_)))))
 ·exact .mk ⟨rfl,H0,HS,hle,HLe.refl _,CI,hs⟩
 ·rintro k fr w hk ⟨rfl,H1,σb,az,gq,hI,hs⟩;obtain ⟨x,hx⟩:=nth (l:=s.dt) (by simpa using hk);obtain ⟨hA,hB,_⟩:=aU.arc (List.mem_of_getElem? hx) k;refine .block (.af (.z zm (.ixX hs (hr.mono az) rfl rfl bj cD hx rfl ?_)));intro yE o11 pM;refine .q hs (cj (vs:=x.c) rfl kT cD pM) (.o (.alloc hs gz rfl fun b4 w hs=>?_));refine .z zg (.o (.aJ (vs:=x.c) hs rfl rfl cD fun w hs=>?_));refine .nil (.af (.z zm (.z (zfa eN) (.y hs (zld aj) (.z (zfa eZ) (.y hs (zld aj) (.z (zfa fN) (.y hs (zld aj) (.z zm (.z (zbd [_,_,_,_] tI) ?_))))))))));have tE:k<(s.dL.map fun x=>[Value.agg x.v.toArray]).length:=by simp [dz.dL,fo];simpa using hk
  have Ra:(s.dL.map fun x=>[Value.agg x.v.toArray])[k]=[.agg (x.arc k).v.toArray]:=by
   have:=mi hx;rw [List.getElem_map];rw [List.getElem?_eq_some_iff] at this;obtain ⟨h1,h2⟩:=this;simp only [dz.dL];rw [h2]
  have BA:=hy k tE H1 σb σf w az hI hs.tail;rw [Ra] at BA;refine .o (.yield (vs:=[.agg (x.arc k).v.toArray]) rfl (by simp [Arc.v,hA,hB];rfl) BA ?_);rintro v22 w ⟨H2,σ2,g1,hs,g3⟩;obtain ⟨bb,rfl,gT,gF⟩:=rp g3;refine .zn fE (.cond rfl (fun kX=>?_) (fun kX=>?_))
  ·exact .ret (rB (rT (rB (Fin.SN results295 ⟨H2,σ2,gq.trans g1,hs,.inr (gF (by simpa using kX))⟩))))
  ·exact .skip (nB (nT (.mk ⟨rfl,H2,σ2,az.trans g1,gq.trans g1,gT (by simpa using kX),hs⟩)))
 ·rintro fr w ⟨rfl,H1,σb,az,gq,hI,hs⟩;exact Fin.FR results295 ⟨H1,σb,gq,hs,.inl (by simpa [dz.dL,fo] using hI)⟩
theorem m8{w:World}{v:Value}{s:dz}(hs:St H w σ)(aU:s.Ok)(hr:RSy H v s):
  ab8 269 [v] w fun v w'=>∃H1 b,HLe H H1∧v= .func (.func 295) #[] #[Pt b]∧ItA Tryz.prog 295 [Pt b] H1 s.dL∧St H1 w' σ:=by
 obtain ⟨u,rfl,hr⟩:=hr;refine Cl.o func269 ntmps269 ag1 ?_;refine .af (.bx hs fun b1 w hs=>?_);refine .zn zg (.af (.q hs (dZ (f:=[]) (c:=[_]) rfl rfl) (.zn zg (.ret (Fin.bu results269 rfl ?_)))));obtain ⟨H1,g1,g2,hs⟩:=hs.dn .here;exact ⟨H1,b1,g1,rfl,wx aU g2 (hr.mono g1),hs⟩
theorem oJ{w:World}{N gf:Nat}{ar:List Arc}(hs:St H w σ)(hN:N≤64)(aU:wP ar (N+1))(ti:ItA Tryz.prog gf cap H ar)(hc:∀args w,(callFunc gf args).run Tryz.prog w= .ok (.enter gf args) w):
  ab8 225 [I N,.func (.func gf) #[] cap.toArray] w fun v w'=>∃H1 bc bb s ov vo,HLe H H1∧v= .tuple #[.slice (some ⟨bc,0,none⟩) (N+1) (N+1),.slice (some ⟨bb,0,none⟩) (N+1) (N+1),vo]∧OvR H1 vo ov∧VR (N+1) ar s ov∧St H1 w' (.blk bc (Is s.cost):: .blk bb (lX s.by_)::σ):=by
 refine Cl.o func225 ntmps225 ag2 ?_;refine .af (.o (.alloc hs ir rfl fun b4 w hs=>?_));refine .o (.alloc hs zeroValue267 rfl fun b5 w hs=>?_);refine .o (.alloc hs zeroValue268 rfl fun b6 w hs=>?_);refine .nil (.cut (fun fs w=>∃bc bb,lr fs ⟨70,[],[(1,.func (.func gf) #[] cap.toArray),(0,I N),(4,Pt b4),(5,Pt b5),(6,Pt b6)]⟩∧St H w (.blk b4 [.slice (some ⟨bc,0,none⟩) (N+1) (N+1)]:: .blk b5 [.slice (some ⟨bb,0,none⟩) (N+1) (N+1)]:: .blk b6 [.pointer none]:: .blk bc (Is (List.replicate (N+1) 0)):: .blk bb (lX (GM (N+1) 0))::σ)) ?_ ?_)
 ·refine .draw mix rfl hs fun w hs=>?_
  refine .zw 0 rfl zm ?_;refine .z 1 rfl cV ?_;refine .z 3 rfl zm ?_;refine .z 4 rfl cV ?_;refine .e2 (i:=2) (j:=5) aD rfl rfl rfl rfl .none .none hs ?_ ?_
  ·refine .vO (N+1) hs rfl rfl ae jK rfl ak dA ai ?_;intro yE w hs;refine .go (.e2 (i:=5) (j:=6) aD rfl rfl rfl rfl .none .none hs ?_ ?_)
   ·refine .Om (N+1) hs rfl rfl aN aah rfl bD jt ai ?_;intro sF w hs;refine .go (.E 6 hs ?_);refine .store hs rfl rfl aO ?_;intro w hs;refine .go (.E 7 hs ?_);refine .store hs rfl rfl VZ ?_;intro w hs;exact .go (.D hs (nT ⟨yE,sF,aM,hs.sb⟩))
   ·refine .store hs rfl rfl aO ?_;intro w hs;refine .go (.E 5 hs ?_);refine .Om (N+1) hs rfl rfl aN aah rfl bD jt ai ?_;intro sF w hs;refine .go (.E 7 hs ?_);refine .store hs rfl rfl VZ ?_;intro w hs;exact .go (.D hs (nT ⟨yE,sF,aM,hs.sb⟩))
  ·refine .Om (N+1) hs rfl rfl aN aah rfl bD jt ai ?_;intro sF w hs;refine .go (.E 2 hs ?_);refine .vO (N+1) hs rfl rfl ae jK rfl ak dA ai ?_;intro yE w hs;refine .go (.E 6 hs ?_);refine .store hs rfl rfl aO ?_;intro w hs;refine .go (.E 7 hs ?_);refine .store hs rfl rfl VZ ?_;intro w hs;exact .go (.D hs (nT ⟨yE,sF,aM,hs.sb⟩))
 ·rintro s w ⟨bc,bb,gP,hs⟩;refine WE.sub ?_ gP;refine .seq (.af (.y hs (zld nq) (.z (dk aN) (.zn zm (.for (N:=N+1) (J:=fun k fr w=>fr=[(1,.func (.func gf) #[] cap.toArray),(0,I N),(4,Pt b4),(5,Pt b5),(6,Pt b6)]∧St H w (.blk b4 [.slice (some ⟨bc,0,none⟩) (N+1) (N+1)]:: .blk b5 [.slice (some ⟨bb,0,none⟩) (N+1) (N+1)]:: .blk b6 [.pointer none]:: .blk bc (Is (List.replicate (N+1) 0)):: .blk bb (lX (GM (N+1) k))::σ)) ai ?_ ?_ ?_)))))
  ·exact .mk ⟨rfl,hs⟩
  ·rintro k fr w hk ⟨rfl,hs⟩;have pV:k<(GM (N+1) k).length:=by rw [GL ai];exact hk
   refine .block (.af (.z zm (.zn zg (.region (.y hs (zld nq) (.z zm ?_))))));first|(refine .ixw hs aN bD ?_;intro VL o22 jV)|refine .z (nH aN bD) ?_
   refine .z (zfa eU) (.o (.store hs rfl rfl ak ?_ dC (I4 pV ai) ((F9 pV _).trans (congrArg lX (Oj hk)))));intro w hs;exact .nil (nB (nT (.mk ⟨rfl,hs⟩)))
  ·rintro fr w ⟨rfl,hs⟩;refine nT (.seq (.af (.z zm (.z cV (.zn zm (.forD (N:=N+2) (J:=fun r ds fr w=>fr=[(1,.func (.func gf) #[] cap.toArray),(0,I N),(4,Pt b4),(5,Pt b5),(6,Pt b6)]∧∃Ds H1 s vo,ds=marks Ds∧HLe H H1∧BI (N+1) ar r 0 none s∧(r=0∨∃x,OvR H1 vo (some x)∧BI (N+1) ar (r - 1) ar.length (some x) s)∧St H1 w (.blk b4 [.slice (some ⟨bc,0,none⟩) (N+1) (N+1)]:: .blk b5 [.slice (some ⟨bb,0,none⟩) (N+1) (N+1)]:: .blk b6 [vo]:: .blk bc (Is s.cost):: .blk bb (lX s.by_)::(mes Ds++σ))) ai ?_ ?_ ?_))))))
   ·exact .mk (ds:=[]) ⟨rfl,[],H,⟨List.replicate (N+1) 0,List.replicate (N+1) ⟨0,0,0,-1⟩⟩,_,rfl,HLe.refl _,BI.init ai,.inl rfl,by rw [Lj] at hs;exact hs⟩
   ·rintro r ds fr w hr ⟨rfl,Ds,H1,s,vo,rfl,az,abL,-,hs⟩;refine .block (.af (.o (.store hs rfl rfl sizeOf268 fun w hs=>?_)));refine .nil (.seq (.af (.zn zm (.block ?_))));refine .rangeFunc (gf:=gf) (cap:=cap) (xs:=ar.map fun x=>[.agg x.v.toArray]) (σb:=[.blk b4 [.slice (some ⟨bc,0,none⟩) (N+1) (N+1)],.blk b5 [.slice (some ⟨bb,0,none⟩) (N+1) (N+1)],.blk b6 [.pointer none],.blk bc (Is s.cost),.blk bb (lX s.by_)]) (σf:=mes Ds++σ) hs trivial rfl (ti.mono az) hc bK rfl
     (I:=fun k H' σb=>∃s ov vo,σb=[.blk b4 [.slice (some ⟨bc,0,none⟩) (N+1) (N+1)],.blk b5 [.slice (some ⟨bb,0,none⟩) (N+1) (N+1)],.blk b6 [vo],.blk bc (Is s.cost),.blk bb (lX s.by_)]∧OvR H' vo ov∧BI (N+1) ar r k ov s) (Ix:=fun _ _ _=>False) (by rintro k _ _ σ g1 ⟨s,ov,vo,g2,g3,g4⟩;exact ⟨s,ov,vo,g2,g3.mono g1,g4⟩) (fun _ _ _ _ _ h=>h)
     ⟨s,none,_,rfl,rfl,abL⟩ ?_ ?_ (fun D c H' σb w _ h _=>h.elim)
    ·rintro l k hk H2 zE yI w bp ⟨s,ov,vo,rfl,Kk,hN⟩ hs ⟨rr,Fe⟩;obtain ⟨x,hx⟩:=nth (l:=ar) (by simpa using hk);obtain ⟨c1,c2,c3,c4,c5,c6⟩:=aU.2 x (List.mem_of_getElem? hx);have Ra:(ar.map fun x=>[Value.agg x.v.toArray])[k]=[.agg x.v.toArray]:=by rw [List.getElem_map];rw [List.getElem?_eq_some_iff] at hx;obtain ⟨h1,h2⟩:=hx;rw [h2]
     rw [Ra];have pV:k<ar.length:=by simpa using hk
     have Hf:=aU.1;have Gl:=hN.lc;have Ei:=hN.lb;have lo1:=hN.lo x.f c1;have hi1:=hN.hi x.f c1;refine .region (.o (.alloc hs jt rfl fun b8 w hs=>?_));refine .o (.aJ (vs:=x.v) hs rfl rfl bD fun w hs=>?_);refine .nil (nT ⟨H2,[.blk b8 x.v,.blk b4 [.slice (some ⟨bc,0,none⟩) (N+1) (N+1)],.blk b5 [.slice (some ⟨bb,0,none⟩) (N+1) (N+1)],.blk b6 [vo],.blk bc (Is s.cost),.blk bb (lX s.by_)],HLe.refl _,hs,?_⟩);rintro w yI - hs;refine .block (.seq (.draw mix rfl hs fun w hs=>?_));refine .y 0 rfl hs an ?_;refine .z 1 rfl (zfa dV) ?_;refine .y 2 rfl hs aj ?_;first|(refine .ixv 3 rfl hs ae ak ?_;intro Qv o34 kJ)|refine .z 3 rfl (zix ae ak) ?_
     refine .y 4 rfl hs aj ?_;refine .z 5 rfl (zfa ic) ?_;refine .y 6 rfl hs aj ?_;refine .z 7 rfl cV ?_;refine .y 8 rfl hs an ?_;refine .z 9 rfl (zfa eu) ?_;refine .y 10 rfl hs aj ?_;first|(refine .ixv 11 rfl hs ae ak ?_;intro VH o42 Fq)|refine .z 11 rfl (zix ae ak) ?_
     refine .y 12 rfl hs aj ?_;refine .z 13 rfl gV ?_;refine .D hs ?_;refine (.bA rfl (fun B4=>?_) (fun B4=>?_))
     ·refine .seq (.draw mix rfl hs fun w hs=>?_);refine .y 0 rfl hs an ?_;refine .z 1 rfl (zfa eu) ?_;refine .y 2 rfl hs aj ?_;refine .y 3 rfl hs nq ?_;refine .z 4 rfl (zfa eu) ?_;refine .y 5 rfl hs aj ?_;refine .y 6 rfl hs an ?_;refine .z 7 rfl (zfa dV) ?_;refine .y 8 rfl hs aj ?_;first|(refine .ixv 9 rfl hs ae ak ?_;intro b54 o54 OQ)|refine .z 9 rfl (zix ae ak) ?_
      refine .y 10 rfl hs aj ?_;refine .z 11 rfl (zfa ic) ?_;refine .y 12 rfl hs aj ?_;refine .z 13 rfl cV ?_;refine .Jz (i:=14) (vs:=x.v) hs rfl aD .none rfl rn bD ?_;first|(refine .ixv 15 rfl hs ae ak ?_;intro ab1 o60 JO)|refine .z 15 rfl (zix ae ak) ?_
      refine .E 16 hs ?_;refine .store hs rfl rfl ak ?_;intro w hs;refine .go ?_;first|(refine .ixw 17 rfl hs aN bD ?_;intro Qu o61 qh)|refine .z 17 rfl (nH aN bD) ?_
      refine .E 18 hs ?_;refine .aJ (vs:=x.v) hs rfl rfl bD ?_;intro w hs;refine .go (.D hs (.region (.o (.store hs rfl rfl sizeOf268 fun w hs=>?_))));refine .nil (nB ?_);obtain ⟨H3,g1,g2,hs⟩:=hs.dn .here;exact ⟨H3,_,g1,hs,s.rlx x,some x,_,rfl,⟨b8,rfl,g2⟩,hN.BP aU hx B4⟩
     ·exact .skip (nB ⟨H2,_,HLe.refl _,hs.tail,s,ov,vo,rfl,Kk,hN.skip aU hx (by unfold BS.can;omega)⟩)
    ·rintro D H2 zE w bp ⟨s,ov,vo,rfl,Kk,hN⟩ hs;obtain ⟨a',rfl,Qj⟩:=Kk.ptr;replace hs:St H2 w (.blk b4 [.slice (some ⟨bc,0,none⟩) (N+1) (N+1)]:: .blk b5 [.slice (some ⟨bb,0,none⟩) (N+1) (N+1)]:: .blk b6 [.pointer a']:: .blk bc (Is s.cost):: .blk bb (lX s.by_)::(mes (D::Ds)++σ)):=St.deep (σ1:=[_,_,_,_,_]) hs;have hN:BI (N+1) ar r ar.length ov s:=by simpa using hN
     refine nB (nT (.af (.y hs (zld isAgg268) (.q hs (K3 rfl rfl runUnderlying268) (.nil (.cond rfl (fun oq=>?_) (fun oq=>?_)))))))
     ·refine .seq (.draw mix rfl hs fun w hs=>?_);refine .y 0 rfl hs an ?_;refine .y 1 rfl hs nq ?_;refine .E 2 hs ?_;refine .store hs rfl rfl aO ?_;intro w hs;refine .go (.E 3 hs ?_);refine .store hs rfl rfl VZ ?_;intro w hs;refine .go (.E 4 hs ?_);refine .store hs rfl rfl sizeOf268 ?_;intro w hs;refine .go (.D hs (.ret (rB (rT (rB (rT (?_)))))));obtain ⟨rfl,rfl⟩:=OvR.no Qj oq;refine Fin.iG (D::Ds) [_,_,_,_,_] hs fun w hs=>⟨_,results3 results225 (Jn hs rfl an) (Jn hs rfl nq) (Jn hs rfl isAgg268),H2,bc,bb,s,none,_,az.trans bp,rfl,Kk,⟨r,hN,fun h=>(h rfl).elim⟩,hs.sb⟩
     ·refine .skip (nB (nT ?_));obtain ⟨x,rfl⟩:=OvR.yes Qj oq;exact .mk (ds:=marks (D::Ds)) ⟨rfl,D::Ds,H2,s,_,rfl,az.trans bp,hN.next aU,.inr ⟨x,Kk,hN⟩,hs⟩
   ·rintro ds fr w ⟨rfl,Ds,H1,s,vo,rfl,az,abL,hor,hs⟩;obtain ⟨x,Kk,hN⟩:∃x,OvR H1 vo (some x)∧BI (N+1) ar (N+2 - 1) ar.length (some x) s:=hor.resolve_left ai;obtain ⟨b3,rfl,uv⟩:=Kk;refine nT (.seq (.draw mix rfl hs fun w hs=>?_));refine .y 0 rfl hs an ?_;refine .y 1 rfl hs nq ?_;refine .y 2 rfl hs isAgg268 ?_;refine .E 3 hs ?_;refine .store hs rfl rfl aO ?_;intro w hs;refine .go (.E 4 hs ?_);refine .store hs rfl rfl VZ ?_;intro w hs;refine .go (.E 5 hs ?_);refine .store hs rfl rfl sizeOf268 ?_;intro w hs;refine .go (.D hs (.ret (Fin.iG Ds [_,_,_,_,_] hs fun w hs=>⟨_,results3 results225 (Jn hs rfl an) (Jn hs rfl nq) (Jn hs rfl isAgg268),H1,bc,bb,s,some x,_,az,rfl,⟨b3,rfl,uv⟩,⟨N+1,hN,fun _=>rfl⟩,hs.sb⟩)))
theorem lT{w:World}{v:Value}{s:dz}(hs:St H w σ)(aU:s.Ok)(hr:RSy H v s):
  ab8 223 [v] w fun v w'=>∃H1 b,HLe H H1∧v= .bool b∧(b=true↔s.Sound)∧St H1 w' σ:=by
 obtain ⟨u,rfl,hr⟩:=hr;obtain ⟨N,hN⟩:=Int.eq_ofNat_of_zero_le aU.m0;have Zo:=aU.m1;have hn:s.n=N+1:=by simp [dz.n,hN]
 have vS:=aU.dL;rw [hn] at vS;rw [hN];refine Cl.o func223 ntmps223 ag1 ?_;refine .af (.bx hs fun b1 w hs=>?_);refine .zn zg (.seq (.draw mix rfl hs fun w hs=>?_));refine .zw 0 rfl (zfa cz) ?_;refine .y 1 rfl hs aj ?_;refine .ys 2 rfl hs [_,_] bT aQ ?_;refine .E 3 hs ?_;refine .call call269 rfl (m8 (s:=s) hs aU ⟨u,by rw [hN],hr⟩) ?_;rintro _ w ⟨H1,pb,az,rfl,ti,hs⟩;refine .go (.E 4 hs ?_);refine .call call225 rfl (oJ hs ai vS ti call295) ?_;rintro _ w ⟨H2,bc,bb,st,ov,vo,bp,rfl,Kk,SX,hs⟩;obtain ⟨a',rfl,Qj⟩:=Kk.ptr;refine .go (.zw 5 rfl zm ?_);refine .z 6 rfl zex ?_;refine .z 7 rfl zex ?_;refine .z 8 rfl zex ?_;refine .z 9 rfl zg ?_;refine .z 10 rfl zg ?_;refine .z 11 rfl zg ?_;refine .D hs ?_;refine .af (.z zm (.q hs (K3 rfl rfl runUnderlying268) (.zn zg (.ret (Fin.bu results223 rfl ⟨H2,_,az.trans bp,rfl,?_,hs.out⟩)))));obtain ⟨r,Nn,A0⟩:=SX
 cases ov with
 |none=>
  rw [Qj];exact ⟨fun _=>⟨_,(Nn.sol vS ai).1⟩,fun _=>rfl⟩
 |some x=>
  rw [Qj];exact ⟨fun h=>(by cases h),fun h=>(Nn.none vS ai (by have:=A0 bK;omega) h).elim⟩
theorem ug{w:World}{c:Int}(hs:St H w σ)(hc:0≤c∧c<4294967296):ab8 313 [.int .u64 1,.int .u64 c] w fun v w'=>v= .tuple #[.int .u64 0,.int .u64 c]∧St H w' σ:=by
 refine Cl.o func313 ntmps313 ag2 ?_;refine .af (.z zg (.zn zg (.af (.z zm ?_))));first|refine .q hs (QX rfl rfl ⟨ai,ai⟩) ?_|refine .q hs (Ih rfl rfl) ?_
 refine .zn zg (.af (.z zm ?_));first|refine .q hs (ES rfl rfl ⟨ai,ai⟩) ?_|refine .q hs (GG rfl rfl eA) ?_
 refine .zn zg (.af (.z zm ?_));first|refine .q hs (QX rfl rfl ⟨ai,ai⟩) ?_|refine .q hs (Ih rfl rfl) ?_
 refine .zn zg (.af (.z zm ?_));first|refine .q hs (ES rfl rfl ⟨ai,ai⟩) ?_|refine .q hs (GG rfl rfl eA) ?_
 refine .zn zg (.af (.z zm (.z zm (.z la (.zn zg (.af (.z zm (.z zm (.z la (.z zm ?_))))))))));first|refine .q hs (ES rfl rfl ⟨ai,ai⟩) ?_|refine .q hs (GG rfl rfl eA) ?_
 refine .z cV (.zn zg (.af (.z zm ?_)));first|refine .q hs (QX rfl rfl ⟨ai,ai⟩) ?_|refine .q hs (Ih rfl rfl) ?_
 refine .zn zg (.af (.z zm ?_));first|refine .q hs (ES rfl rfl ⟨ai,ai⟩) ?_|refine .q hs (GG rfl rfl eA) ?_
 refine .zn zg (.af (.z zm (.z zm (.z zm (.z la (.z cV (.zn zg (.af (.z zm (.z zm (.z la (.z zm (.z cV (.z zm ?_))))))))))))));first|refine .q hs (ES rfl rfl ⟨ai,ai⟩) ?_|refine .q hs (GG rfl rfl eA) ?_
 exact .z cV (.zn zg (.af (.z zm (.z zm (.z la (.zn zg (.ret (Fin.iz results313 rfl rfl ⟨bK,hs⟩))))))))
theorem xw{w:World}{c:Int}(hs:St H w σ)(hc:0≤c∧c<4294967296):ab8 306 [.int .u64 1,.int .u64 c] w fun v w'=>v= .tuple #[.int .u64 0,.int .u64 c]∧St H w' σ:=by
 refine Cl.o func306 ntmps306 ag2 ?_;refine .af (.z zg (.zn zg (.seq (.cF (.skip (nT (.af (.z zm (.z zm (.o (.call call313 rfl (ug hs hc) ?_)))))))))));rintro _ w ⟨rfl,hs⟩;exact .z zm (.z zex (.z zex (.z zg (.zn zg (.af (.z zm (.z zm (.z zg (.zn zg (.ret (Fin.iz results306 rfl rfl ⟨rfl,hs⟩)))))))))))
theorem MG{c:Nat}{z:Int}:let n:=min k (c - k);(List.replicate k z++List.replicate (c - k) 0).take k++List.replicate n z++(List.replicate k z++List.replicate (c - k) 0).drop (k+n)=List.replicate (k+n) z++List.replicate (c - (k+n)) (0:Int):=by
 intro n;have hn:n≤c - k:=Nat.min_le_right _ _;have e0:(List.replicate k z).length=k:=by simp
 rw [List.take_left' e0];have e1:(List.replicate k z++List.replicate (c - k) 0).drop (k+n)=List.replicate (c - (k+n)) (0:Int):=by
  rw [show k+n=(List.replicate k z).length+n by simp,List.drop_append];simp;omega
 rw [e1,List.replicate_append_replicate]
theorem xg{w:World}{z:Int}{bx c:Nat}(hs:St H w σ)(hm:Mem σ (.blk bx (Is [z])))(h1:1≤c)(h2:c≤1000000):ab8 296 [.slice (some ⟨bx,0,none⟩) 1 1,I c] w fun v w'=>∃b,v= .slice (some ⟨b,0,none⟩) c c∧St H w' (.blk b (Is (List.replicate c z))::σ):=by
 refine Cl.o func296 ntmps296 ag2 ?_;refine .af (.zn zg (.seq (.af (.z zm (.zn gV (.bA rfl (fun mB=>?_) (fun mB=>?_)))))))
 ·omega
 ·refine .skip (nT (.af (.z zm (.z (dk ae) ?_))));first|refine .q hs (Du rfl cJ fV ⟨ai,ai⟩) ?_|refine .q hs (Dt rfl cJ fV ⟨ai,ai⟩) ?_|refine .q hs (EV rfl cJ fV) ?_
  refine .z zm ?_;first|refine .q hs (Du rfl cJ fV ⟨ai,ai⟩) ?_|refine .q hs (Dt rfl cJ fV ⟨ai,ai⟩) ?_|refine .q hs (EV rfl cJ fV) ?_
  refine .o (.call call306 rfl (xw (c:=c) hs ai) ?_);rintro _ w ⟨rfl,hs⟩;refine .z zm (.z zex (.z zex (.z zg (.zn zg (.seq (.af (.z zm (.z ld (.z zm (.ie (t':=23) rfl (fun uz=>?_) (fun uz=>?_)))))))))))
  ·refine .Fs 2 2 false (.zn zpT (.cT ?_));first|omega|(simp at jm;omega)
  ·refine .T (.z zm (.T (.z ld (.zn zpF (.bA rfl (fun jm=>?_) (fun jm=>?_))))))
   ·first|omega|(simp at jm;omega)
   ·refine .skip (nT (.af (.z zm ?_)));first|refine .q hs (Du rfl fV cJ ⟨ai,ai⟩) ?_|refine .q hs (Dt rfl fV cJ ⟨ai,ai⟩) ?_|refine .q hs (EV rfl fV cJ) ?_
    refine .o (.vO c hs rfl rfl ae jK rfl ak dA ai fun VK w hs=>?_);refine .zn zg (.af (.z zm (.z zm (.o (.Vt (k:=1) (xs:=List.replicate c 0) (zs:=[z]) hs rfl rfl ⟨_,_,rfl⟩ ae ak ai rfl (FO (xs:=[z]) (.there hm) rfl rfl) (by simp;omega) ?_)))));intro w hs;refine .zn zg (.seq (.block ?_));refine .loop (fun k:Nat=>⟨48,[],[(8,I k),(7,.slice (some ⟨VK,0,none⟩) c c)]⟩) (fun k w=>(1≤k∧k≤c)∧St H w (.blk VK (Is (List.replicate k z++List.replicate (c - k) 0))::σ)) (fun k=>c - k) 1 aM ⟨⟨ai,ai⟩,by
      have e:List.take 0 (List.replicate c (0:Int))++[z]++List.drop (0+1) (List.replicate c 0)=List.replicate 1 z++List.replicate (c - 1) 0:=by simp
      rw [e] at hs;exact hs⟩ ?_
    rintro k w ⟨⟨k1,k2⟩,hs⟩;refine .seq (.af (.z zm (.z zm (.z (dk ae) (.zn gV (.bA rfl (fun pL=>?_) (fun pL=>?_)))))))
    ·refine .skip (nT (.block (.draw mix rfl hs fun w hs=>?_)));refine .zw 0 rfl zm ?_;refine .z 1 rfl zm ?_;refine .z 2 rfl zm ?_;refine .zw 3 rfl (ER (k:=k) rfl rfl ae ak ai ai) (.zw 4 rfl zm ?_);refine .z 5 rfl zm ?_;refine .zw 6 rfl (AL (k:=k) rfl rfl ae ak ai) (.E 7 hs ?_);refine .Vt (k:=min k (c - k)) (xs:=List.replicate k z++List.replicate (c - k) 0) (zs:=List.replicate (min k (c - k)) z) hs rfl rfl ⟨_,_,rfl⟩ ae ak rfl bK (FO (xs:=List.replicate k z++List.replicate (c - k) 0) .here (by rw [List.drop_zero,List.take_append_of_le_length (by simp;omega)];simp) bK) (by simp;omega) ?_;intro w hs;refine .go (.zw 8 rfl cV ?_);refine .z 9 rfl zg ?_;refine .D hs ?_;refine nB (nT ?_);exact ⟨k+min k (c - k),aM,⟨⟨ai,ai⟩,by
       have e:=MG (z:=z) (c:=c) (k:=k);simp only [Nat.mul_one,Nat.zero_add] at hs;rw [e] at hs;exact hs⟩,ai⟩
    ·refine .exit (xT (xT (xB (nT (.af (.z zm (.zn zg (.ret (Fin.bu results296 rfl ?_)))))))));obtain rfl:k=c:=by omega
     exact ⟨VK,rfl,by simpa using hs⟩
theorem xh{w:World}{v:Value}(hs:St H w σ)(hr:RI H v xs)(hx:xs.length≤17592186044416):ab8 171 [v] w fun u w'=>∃en,(TW v=true→TW u=true)∧dj 1 u (Is xs) en∧St H w' (en::σ):=by
 obtain ⟨a,c,rfl⟩:=RI.shape hr;have hl:=(RI.len hr).2.2;refine Cl.o func171 ntmps171 ag1 ?_;refine .af (.zn zg (.seq (.af (.z zm (.q hs (TP rfl rfl ae) (.nil (.cond rfl (fun abi=>?_) (fun abi=>?_))))))))
 ·refine .af (.zn zg (.ret (rT (Fin.bu results171 rfl ?_))));obtain rfl:a=none:=by simpa using abi
  obtain rfl:=hr.Xe;exact ⟨.nul,fun h=>h,.nil 1 none,hs.nul⟩
 ·refine .skip (nT (.af (.o (.buildSlice (cells:=[]) hs sC rfl rfl fun b5 w hs=>?_))));refine .z zm (.o (.M4 (xs:=[]) (ys:=Is xs) hs df rfl rfl (.full rfl) (.ints hr) (by simp [Value.oneCell']) (fun l h=>by simp at h;omega) ?_));intro v7 en7 w BY hO hs;exact .zn zg (.ret (Fin.bu results171 rfl ⟨en7,fun _=>BY rfl,hO,hs⟩))
theorem qu{w:World}{v:Value}(hs:St H w σ)(hr:RI H v xs)(hx:xs.length≤17592186044416):ab8 171 [v] w fun v w'=>∃en,dj 1 v (Is xs) en∧St H w' (en::σ):=
 (xh hs hr hx).mono fun _ _ ⟨en,_,h⟩=>⟨en,h⟩
theorem tT{w:World}{v:Value}{l:List Arc}(hs:St H w (en::σ))(ho:dj 4 v (lX l) en)(hl:l.length≤1000000):
  ab8 297 [v] w fun _ w'=>∃l5,dj 4 v (lX l.reverse) l5∧St H w' (l5::σ):=by
 rcases ho with ⟨a,rfl,h2,rfl⟩|⟨b,len,cap,sp,rfl,rfl,h2,h3,h4⟩
 ·obtain rfl:l=[]:=by
   have:=congrArg List.length h2;rw [eR] at this;exact List.length_eq_zero_iff.1 (by simp at this;omega)
  have hs:=hs.tail;refine Cl.o func297 ntmps297 ag1 ?_;refine .af (.z zm (.z (dk aN) (.z gE (.z zg (.zn zg (.block (.loop (fun _:Unit=>⟨28,[],[(2,I 0),(3,I (-1))]⟩) (fun _ w=>St H w σ) (fun _=>0) () aM hs ?_)))))));rintro _ w hs;refine .seq (.af (.z zm (.z zm (.zn gV (.bA rfl (fun om=>?_) (fun om=>?_))))))
  ·omega
  ·exact .exit (xT (xT (xB (Fin.FR results297 ⟨.nul,.nil 4 a,hs.nul⟩))))
 obtain rfl:len=l.length:=by rw [eR] at h2;omega
 refine Cl.o func297 ntmps297 ag1 ?_;refine .af (.z zm (.z (dk aN) (.z gE (.z zg (.zn zg (.block (.loop (fun p:Nat×List Arc=>⟨28,[],[(2,I p.1),(3,I ((l.length:Int) - 1 - p.1)),(0,.slice (some ⟨b,0,none⟩) l.length cap)]⟩) (fun p w=>(2*p.1≤l.length+1∧yF l p.2 p.1)∧St H w (.blk b (lX p.2++sp)::σ)) (fun p=>l.length - p.1) (0,l) (.cons rfl (.da rfl bK (.cons rfl (.nil rfl rfl)))) ⟨⟨bK,.start l⟩,hs⟩ ?_)))))));rintro ⟨i,L⟩ w ⟨⟨h5,h6⟩,hs⟩;dsimp only at h5 h6 hs ⊢;have hL:=h6.1;refine .seq (.af (.z zm (.z zm (.zn gV (.bA rfl (fun om=>?_) (fun om=>?_))))))
 ·refine .skip (nT (.seq (.block (.draw mix rfl hs fun w hs=>?_))));refine .zw 0 rfl zm ?_;refine .z 1 rfl zm ?_;refine .z 2 rfl zm ?_;refine .z 3 rfl zm ?_;refine .z 4 rfl zm ?_;refine .z 5 rfl zm ?_;refine .zw 6 rfl (Cu (k:=l.length - 1 - i) rfl rfl aN bD ai ai) (.Jz (i:=7) (vs:=(ga L (l.length - 1 - i)).v) hs rfl aD .none rfl rn bD ?_ (hv:=Bt ai sp));refine .zw 8 rfl zm ?_;refine .z 9 rfl zm ?_;first|(refine .ixw 10 rfl hs aN bD ?_;intro uQ o24 jw)|refine .z 10 rfl (nH aN bD) ?_
  refine .Jz (i:=11) (vs:=(ga L i).v) hs rfl aD .none rfl rn bD ?_ (hv:=Bt ai sp);first|(refine .ixw 12 rfl hs aN bD ?_;intro Tk o26 jm)|refine .z 12 rfl (nH aN bD) ?_
  refine .E 13 hs ?_;refine .aJ (vs:=(ga L (l.length - 1 - i)).v) hs rfl rfl bD ?_ dC (Bl ai sp) (yr ai _ sp);intro w hs;refine .go (.zw 14 rfl (Cu (k:=l.length - 1 - i) rfl rfl aN bD ai ai) (.E 15 hs ?_));refine .aJ (vs:=(ga L i).v) hs rfl rfl bD ?_ dC (Bl (by simp;omega) sp) (yr (by simp;omega) _ sp);intro w hs;exact .go (.D hs (nB (nT (.region (.z zm (.z cV (.z zm (.z gE (.z zg (.zn zg (nT ⟨(i+1,_),.cons rfl (.da rfl (by push_cast;omega) (.cons rfl (.nil rfl rfl))),⟨⟨by dsimp only;omega,h6.step ai⟩,hs⟩,by dsimp only;omega⟩)))))))))))
 ·refine .exit (xT (xT (xB ?_)));rw [h6.done ai] at hs;exact Fin.FR results297 ⟨_,.inr ⟨b,l.length,cap,sp,rfl,rfl,by rw [eR];simp,by rw [←h3];simp [eR],h4⟩,hs⟩
theorem re{b1:Nat}{s:dz}(aU:s.Ok)(hb:Row H b1 [Pt bf])(hF:Br H bf s ts lf vl bt bl cl sp)(fD:ts.length=s.dt.length):
  ItA Tryz.prog 274 [Pt b1] H (dN s.dL ts):=by
 intro l II Ix GZ OD hy H0 HS σf w hle CI hs;have FE:cellAt H0 b1 0=some (Pt bf):=(hb.mono hle).at 0;have Kq:=hF.mono hle;have T9:=Kq.f.cells 0 [I s.many,vl];have hlen:s.dL.length=ts.length:=by simp [dz.dL,fo,fD]
 refine Cl.o func274 ntmps274 ag2 ?_;refine .af (.bx hs fun b2 w hs=>?_);refine .nil (.af (.y hs (zld QE) (.z znc (.z (zfa jo) (.q hs (cj (vs:=[I s.many,vl]) rfl bT aQ T9) (.o (.call call269 rfl (m8 (s:=s) hs aU ⟨vl,rfl,Kq.l⟩) ?_)))))));rintro _ w ⟨H1,b8,az,rfl,ti,hs⟩;refine .nil (.block ?_);refine .rangeFunc (gf:=295) (cap:=[Pt b8]) (xs:=s.dL.map fun x:Arc=>[Value.agg x.v.toArray]) (σb:= .blk b2 [.func (.yield l) #[] #[]]::HS) (σf:=σf) hs trivial rfl ti call295 bK rfl
  (I:=fun k H' σb=>∃σo,σb= .blk b2 [.func (.yield l) #[] #[]]::σo∧HLe H0 H'∧II (Ik s.dL ts k) H' σo)
  (Ix:=fun c H' σb=>c= .ret∧∃σo,σb= .blk b2 [.func (.yield l) #[] #[]]::σo∧HLe H0 H'∧Ix H' σo)
  (fun k _ _ σ g1 ⟨σo,g2,g3,g4⟩=>⟨σo,g2,g3.trans g1,GZ _ _ _ _ g1 g4⟩) (fun c _ _ σ g1 ⟨g0,σo,g2,g3,g4⟩=>⟨g0,σo,g2,g3.trans g1,OD _ _ _ g1 g4⟩)
  ⟨HS,rfl,az,by rw [K8];exact GZ _ _ _ _ az CI⟩ ?_ ?_ ?_
 ·rintro l2 k hk H2 zE yI w bp ⟨σo,rfl,gq,Zu⟩ hs ⟨rr,Fe⟩;obtain ⟨x,hx⟩:=nth (l:=s.dL) (by simpa using hk);obtain ⟨c1,c2,c3,c4,c5,c6⟩:=aU.dL.2 x (List.mem_of_getElem? hx);have Ra:(s.dL.map fun x=>[Value.agg x.v.toArray])[k]=[.agg x.v.toArray]:=by rw [List.getElem_map];rw [List.getElem?_eq_some_iff] at hx;obtain ⟨h1,h2⟩:=hx;rw [h2]
  rw [Ra];have S2:k<ts.length:=by rw [←hlen];simpa using hk
  have yv:x.l=(k:Int):=wJ hx;obtain ⟨r1,r2,r3⟩:=KQ (ts:=ts) hx S2;refine .region (.o (.alloc hs jt rfl fun b3 w hs=>?_));refine .o (.aJ (vs:=x.v) hs rfl rfl bD fun w hs=>?_);refine .nil (nT ⟨H2,.blk b3 x.v:: .blk b2 [.func (.yield l) #[] #[]]::σo,HLe.refl _,hs,?_⟩);rintro w yI - hs;refine .block (.seq (.af (.y hs (zld isAgg307) (.q hs (nM (vs:=x.v) rfl rn bD) ?_))));have BA:=hy (Ik s.dL ts k) (by simpa using (List.getElem?_eq_some_iff.1 r1).1) H2 σo (.blk b3 x.v:: .blk b2 [.func (.yield l) #[] #[]]::yI) w (hle.trans gq) Zu (St.deep (σ1:=σo) (St.deep (σ1:= .blk b3 x.v::σo) (hs.perm (.swap _ _ _))));rw [Ll r1] at BA;refine .o (.yield (vs:=[.agg x.v.toArray]) rfl rfl BA ?_);rintro v12 w ⟨H3,σ3,cZ,hs,g3⟩;obtain ⟨bb,rfl,gT,gF⟩:=rp g3;replace hs:St H3 w (.blk b3 x.v:: .blk b2 [.func (.yield l) #[] #[]]::(σ3++yI)):=(St.shallow (σ1:= .blk b3 x.v::σ3) (St.shallow (σ1:=σ3) hs)).perm (.swap _ _ _);refine .zn fE (.cond rfl (fun iq=>?_) (fun iq=>?_))
  ·exact .ret (rT (rB (⟨H3,.blk b2 [.func (.yield l) #[] #[]]::σ3,cZ,hs.tail,rfl,σ3,rfl,gq.trans cZ,gF (by simpa using iq)⟩)))
  ·refine .skip (nT (.seq (.draw mix rfl hs fun w hs=>?_)));have S9:cellAt H3 b1 0=some (Pt bf):=cellAt.mono FE (gq.trans cZ);have Ws:cellAt H3 bf 2=some (.slice (some ⟨bt,0,none⟩) ts.length ts.length):=((Kq.mono (gq.trans cZ)).f).at 2;have ht3:cellAt H3 bt k=some (I (gi ts k)):=((Kq.mono (gq.trans cZ)).t).at k (gd S2);have My:=gT (by simpa using iq);refine .r (i:=0) hs rfl aD .none (aF rfl QE S9) ?_;refine .zw 1 rfl znc ?_;refine .z 2 rfl (zfa jn) ?_;refine .y 3 rfl hs an ?_;refine .z 4 rfl (zfa eU) ?_;refine .y 5 rfl hs aj ?_;refine .zw 6 rfl (eH (k:=k) rfl rfl ae ak yv S2) (.r (i:=7) hs rfl aD .none (aF rfl aj ht3) ?_);refine .zw 8 rfl ld ?_;refine .z 9 rfl zm ?_;refine .ie (t':=23) rfl (fun uz=>?_) (fun uz=>?_)
   ·refine .zv 10 rfl hs (qf isAgg307) (.zw 11 rfl (zfa eu) ?_);refine .y 12 rfl hs aj ?_;refine .z 13 rfl (zfa dV) ?_;refine .y 14 rfl hs aj ?_;refine .z 15 rfl (zfa ic) ?_;refine .y 16 rfl hs aj ?_;refine .z 17 rfl BM ?_;refine .z 18 rfl (zfa eU) ?_;refine .y 19 rfl hs aj ?_;refine .z 20 rfl (zbd [_,_,_,_] tI) ?_;refine .E 21 hs ?_;obtain ⟨r4,r5⟩:=r2 uz;have BA:=hy (Ik s.dL ts k+1) (by simpa using (List.getElem?_eq_some_iff.1 r4).1) H3 σ3 (.blk b3 x.v:: .blk b2 [.func (.yield l) #[] #[]]::yI) w (hle.trans (gq.trans cZ)) My (St.deep (σ1:=σ3) (St.deep (σ1:= .blk b3 x.v::σ3) (hs.perm (.swap _ _ _))));rw [Ll r4] at BA;refine .yield (vs:=[.agg x.back.v.toArray]) rfl rfl BA ?_;rintro v35 w ⟨H4,σ4,gj,hs,g4⟩;obtain ⟨bb4,rfl,gT4,gF4⟩:=rp g4;replace hs:St H4 w (.blk b3 x.v:: .blk b2 [.func (.yield l) #[] #[]]::(σ4++yI)):=(St.shallow (σ1:= .blk b3 x.v::σ4) (St.shallow (σ1:=σ4) hs)).perm (.swap _ _ _);refine .go (.zw 22 rfl fE ?_);refine .z 23 rfl zpT ?_;refine .D hs ?_;refine (.cond rfl (fun pL=>?_) (fun pL=>?_))
    ·exact .ret (rB (⟨H4,.blk b2 [.func (.yield l) #[] #[]]::σ4,cZ.trans gj,hs.tail,rfl,σ4,rfl,gq.trans (cZ.trans gj),gF4 (by simpa using pL)⟩))
    ·exact .skip (nB ⟨H4,.blk b2 [.func (.yield l) #[] #[]]::σ4,cZ.trans gj,hs.tail,σ4,rfl,gq.trans (cZ.trans gj),by rw [r5];exact gT4 (by simpa using pL)⟩)
   ·refine .F 10 rfl ?_;refine .F 11 rfl (.F 12 rfl (.F 13 rfl (.F 14 rfl (.F 15 rfl (.F 16 rfl (.F 17 rfl (.F 18 rfl (.F 19 rfl (.F 20 rfl (.F 21 rfl (.F 22 rfl (.zw 23 rfl zpF ?_))))))))))));refine .D hs ?_;exact (.cF (.skip (nB ⟨H3,.blk b2 [.func (.yield l) #[] #[]]::σ3,cZ,hs.tail,σ3,rfl,gq.trans cZ,by rw [r3 uz];exact My⟩)))
 ·rintro D H2 zE w bp ⟨σo,rfl,gq,Zu⟩ hs;exact nB (Fin.WL [D] [] hs.HY fun w hs=>⟨_,results0 results274,H2,σo,gq,hs,.inl (by simpa [N7 hlen] using Zu)⟩)
 ·rintro D c H2 zE w bp ⟨rfl,σo,rfl,gq,hx⟩ hs;exact .ret (rB (Fin.iG [D] [] hs.HY fun w hs=>⟨_,results0 results274,H2,σo,gq,hs,.inr hx⟩))
theorem tr{w:World}{s:dz}(hs:St H w σ)(aU:s.Ok)(hF:Br H bf s ts lf vl bt bl cl sp)(fD:ts.length=s.dt.length):
  ab8 226 [Pt bf] w fun v w'=>∃H1 b,HLe H H1∧v= .func (.func 274) #[] #[Pt b]∧ItA Tryz.prog 274 [Pt b] H1 (dN s.dL ts)∧St H1 w' σ:=by
 refine Cl.o func226 ntmps226 ag1 ?_;refine .af (.bx hs fun b1 w hs=>?_);refine .zn zg (.af (.q hs (dZ (f:=[]) (c:=[_]) rfl rfl) (.zn zg (.ret (Fin.bu results226 rfl ?_)))));obtain ⟨H1,g1,g2,hs⟩:=hs.dn .here;exact ⟨H1,b1,g1,rfl,re aU g2 (hF.mono g1) fD,hs⟩
theorem uD{w:World}{to:Nat}{s:dz}(hs:St H w σ)(aU:s.Ok)(hF:Br H bf s ts lf vl bt bl cl sp)(fD:ts.length=s.dt.length)(wS:lf.length=s.n)
  (hD:∃p,jU (dN s.dL ts) p) (tD:to<s.n) (JG:0<gi lf to):
  ab8 272 [Pt bf,I to] w fun v w'=>∃H1 p en,HLe H H1∧dj 4 v (lX p) en∧St H1 w' (en::σ)∧Z6 s.n s.dL ts lf p to:=by
 obtain ⟨N,hN⟩:=Int.eq_ofNat_of_zero_le aU.m0;have Zo:=aU.m1;have hn:s.n=N+1:=by simp [dz.n,hN]
 have vS:=aU.dL;have hlen:s.dL.length=ts.length:=by simp [dz.dL,fo,fD]
 rw [hn] at vS wS tD ⊢;obtain ⟨D,hg⟩:=Ia ai ai vS hlen hD;have hf0:cellAt H bf 0=some (I (N:Int)):=by have:=hF.f.at 0 (v:=I s.many);rwa [hN] at this
 have Ws:cellAt H bf 3=some (.slice (some ⟨bl,0,none⟩) lf.length cl):=hF.f.at 3;refine Cl.o func272 ntmps272 ag2 ?_;refine .af (.bx hs fun b2 w hs=>?_);refine .zn zg (.af (.o (.buildSlice (cells:=[_]) hs dw rfl rfl fun nm w hs=>?_)));refine .y hs (zld QE) (.z znc (.z (zfa jo) (.z (zfa cz) (.y hs (zld aj) (.z cV (.o (.call call296 rfl (xg (z:=far) (c:=N+1) hs .here ai ai) ?_)))))));rintro _ w ⟨bc,rfl,hs⟩;refine .o (.alloc hs ir rfl fun b5 w hs=>?_);refine .o (.store hs rfl rfl aO fun w hs=>?_);refine .nil (.af (.y hs (zld QE) (.z znc (.z (zfa jo) (.z (zfa cz) (.y hs (zld aj) (.z cV (.o (.Om (N+1) hs rfl rfl aN aah rfl bD jt ai fun z6 w hs=>?_)))))))));refine .o (.alloc hs zeroValue267 rfl fun b6 w hs=>?_);refine .o (.store hs rfl rfl VZ fun w hs=>?_);refine .nil (.seq (.af (.y hs (zld QE) (.z znc (.z (zfa eV) (.y hs (zld an) (.z (dk ae) (.zn zm (.for (N:=lf.length) (J:=fun k fr w=>fr=[(31,.slice (some ⟨bl,0,none⟩) lf.length cl),(5,Pt b5),(6,Pt b6),(2,Pt b2),(1,I to)]∧∃st,Bo (N+1) lf k st∧St H w (.blk b6 [.slice (some ⟨z6,0,none⟩) (N+1) (N+1)]:: .blk z6 (lX st.by_):: .blk b5 [.slice (some ⟨bc,0,none⟩) (N+1) (N+1)]:: .blk bc (Is st.cost):: .blk b2 [Pt bf]::σ)) ai ?_ ?_ ?_)))))))))
 ·exact .mk ⟨rfl,_,.start _ _,hs.sb⟩
 ·rintro k fr w hk ⟨rfl,st,hI,hs⟩;have Yx:cellAt H bl k=some (I (gi lf k)):=hF.d.at k (sI (bG hk) sp);have Gl:=hI.lc;have Ei:=hI.lb;have Yc:k<st.by_.length:=by omega
  refine .block (.af (.z zm ?_));first|(refine .ixv hs ae ak ?_;intro WS o36 lK)|refine .z (zix ae ak) ?_
  refine .q hs (aF rfl aj Yx) (.z zg (.zn zg (.af (.z zm (.zn gV (.bA rfl (fun kq=>?_) (fun kq=>?_)))))))
  ·refine .af (.y hs (zld an) (.z zm ?_));first|(refine .ixv hs ae ak ?_;intro VH o42 Fq)|refine .z (zix ae ak) ?_
   refine .o (.store hs rfl rfl ak fun w hs=>?_);refine .nil (.region (.y hs (zld nq) (.z zm ?_)));first|(refine .ixw hs aN bD ?_;intro ZL o45 zi)|refine .z (nH aN bD) ?_
   refine .z (zfa eU) (.o (.store hs rfl rfl ak ?_ dC (I4 Yc ai) (F9 Yc _)));intro w hs;exact .nil (nB (nT (.mk ⟨rfl,_,hI.take ai kq,hs⟩)))
  ·exact .skip (nB (nT (.mk ⟨rfl,_,hI.skip kq,hs⟩)))
 ·rintro fr w ⟨rfl,st0,CI,hs⟩;rw [wS] at CI;have Mt:=CI.inv hg;refine nT (.seq (.af (.o (.alloc hs zeroValue4 rfl fun b9 w hs=>?_))));refine .o (.store hs rfl rfl HK fun w hs=>?_);refine .nil (.block ?_);refine .loop (fun p:Nat×List Nat×cK×BS×Bool=>⟨141,marks p.2.1,[(9,.pointer (some ⟨p.1,0,none⟩)),(5,Pt b5),(6,Pt b6),(2,Pt b2),(1,I to)]⟩)
   (fun p w=>HLe H p.2.2.1∧(∃j,z7 (N+1) (dN s.dL ts) (fun v=>gi lf v<0) D j p.2.2.2.2 p.2.2.2.1∧(p.2.2.2.2=false→j=(dN s.dL ts).length))∧
    St p.2.2.1 w (.blk p.1 [.bool p.2.2.2.2]:: .blk b6 [.slice (some ⟨z6,0,none⟩) (N+1) (N+1)]:: .blk z6 (lX p.2.2.2.1.by_):: .blk b5 [.slice (some ⟨bc,0,none⟩) (N+1) (N+1)]:: .blk bc (Is p.2.2.2.1.cost):: .blk b2 [Pt bf]::(mes p.2.1++σ)))
   (fun p=>2*WM (N+1) D p.2.2.2.1+(if p.2.2.2.2=true then 1 else 0)) (b9,[],H,st0,true) aM ⟨HLe.refl _,⟨0,Mt,fun h=>by cases h⟩,hs⟩ ?_
  rintro ⟨b9,Ds,H1,st,ag⟩ w ⟨az,⟨j,hW,hj⟩,hs⟩;dsimp only at az hW hj hs ⊢;have Gl:=hW.lc;have Ei:=hW.lb;refine .seq (.af (.y hs (zld Kd) (.nil (.cond rfl (fun nP=>?_) (fun nP=>?_)))))
  ·refine .skip (nT (.seq (.block (.af ?_))));subst nP;refine .o (.store hs rfl rfl HK fun w hs=>?_);refine .nil (.af (.y hs (zld QE) (.o (.call call226 rfl (tr hs aU (hF.mono az) fD) ?_))));rintro _ w ⟨H2,ZJ,bp,rfl,ti,hs⟩;refine .nil (.block ?_);refine .rangeFunc (gf:=274) (cap:=[Pt ZJ]) (xs:=(dN s.dL ts).map fun x:Arc=>[Value.agg x.v.toArray])
    (σb:=[.blk b9 [.bool false],.blk b6 [.slice (some ⟨z6,0,none⟩) (N+1) (N+1)],.blk z6 (lX st.by_),.blk b5 [.slice (some ⟨bc,0,none⟩) (N+1) (N+1)],.blk bc (Is st.cost),.blk b2 [Pt bf]]) (σf:=mes Ds++σ) hs trivial rfl ti call274 bK rfl
    (I:=fun k H' σb=>HLe H2 H'∧∃Ge ag,σb=[.blk b9 [.bool ag],.blk b6 [.slice (some ⟨z6,0,none⟩) (N+1) (N+1)],.blk z6 (lX Ge.by_),.blk b5 [.slice (some ⟨bc,0,none⟩) (N+1) (N+1)],.blk bc (Is Ge.cost),.blk b2 [Pt bf]]∧
     z7 (N+1) (dN s.dL ts) (fun v=>gi lf v<0) D k ag Ge∧WM (N+1) D Ge≤WM (N+1) D st∧(ag=true→WM (N+1) D Ge<WM (N+1) D st)) (Ix:=fun _ _ _=>False)
    (by rintro k _ _ σ g1 ⟨g2,g3⟩;exact ⟨g2.trans g1,g3⟩) (fun _ _ _ _ _ h=>h) ⟨HLe.refl _,st,false,rfl,hW.next,Nat.le_refl _,fun h=>by cases h⟩ ?_ ?_ (fun D c H' σb w _ h _=>h.elim)
   ·rintro l k hk H3 Nr σf3 w cZ ⟨Fi,Ge,ag,rfl,Ek,JH,Rs⟩ hs ⟨rr,Fe⟩;obtain ⟨x,hx⟩:=nth (l:=dN s.dL ts) (by simpa using hk);obtain ⟨c1,c2,c3,c4,c5,c6⟩:=hg.ok x (List.mem_of_getElem? hx);rw [Ll hx];have hlc':=Ek.lc;have hlb':=Ek.lb;have lo1:=Ek.lo x.f c1;have lo2:=hg.d1 x.f c1;have aaD:cellAt H3 bl x.t=some (I (gi lf x.t)):=((hF.mono (az.trans (bp.trans cZ))).d).at x.t (sI (bG ai) sp);have hf33:cellAt H3 bf 3=some (.slice (some ⟨bl,0,none⟩) lf.length cl):=cellAt.mono Ws (az.trans (bp.trans cZ));refine .region (.o (.alloc hs jt rfl fun pb w hs=>?_));refine .o (.aJ (vs:=x.v) hs rfl rfl bD fun w hs=>?_);refine .nil (nT ⟨H3,[.blk pb x.v,.blk b9 [.bool ag],.blk b6 [.slice (some ⟨z6,0,none⟩) (N+1) (N+1)],.blk z6 (lX Ge.by_),.blk b5 [.slice (some ⟨bc,0,none⟩) (N+1) (N+1)],.blk bc (Is Ge.cost),.blk b2 [Pt bf]],HLe.refl _,hs,?_⟩);rintro w uM - hs;refine .block (.seq (.draw mix rfl hs fun w hs=>?_));refine .y 0 rfl hs an ?_;refine .z 1 rfl (zfa dV) ?_;refine .y 2 rfl hs aj ?_;first|(refine .ixv 3 rfl hs ae ak ?_;intro ab4 o55 L3)|refine .z 3 rfl (zix ae ak) ?_
    refine .y 4 rfl hs aj ?_;refine .z 5 rfl gV ?_;refine .z 6 rfl zm ?_;refine .ie (t':=58) rfl (fun zj=>?_) (fun zj=>?_)
    ·refine .y 7 rfl hs an ?_;refine .z 8 rfl (zfa dV) ?_;refine .y 9 rfl hs aj ?_;first|(refine .ixv 10 rfl hs ae ak ?_;intro Qt o62 JN)|refine .z 10 rfl (zix ae ak) ?_
     refine .y 11 rfl hs aj ?_;refine .z 12 rfl (zfa ic) ?_;refine .y 13 rfl hs aj ?_;refine .z 14 rfl cV ?_;refine .y 15 rfl hs an ?_;refine .z 16 rfl (zfa eu) ?_;refine .y 17 rfl hs aj ?_;first|(refine .ixv 18 rfl hs ae ak ?_;intro b70 o70 OO)|refine .z 18 rfl (zix ae ak) ?_
     refine .y 19 rfl hs aj ?_;refine .z 20 rfl gV ?_;refine .z 21 rfl zpT ?_;refine .z 22 rfl zm ?_;refine .ie (t':=74) rfl (fun JP=>?_) (fun JP=>?_)
     ·refine .y 23 rfl hs QE ?_;refine .z 24 rfl znc ?_;refine .z 25 rfl (zfa eV) ?_;refine .y 26 rfl hs an ?_;refine .z 27 rfl (zfa eu) ?_;refine .y 28 rfl hs aj ?_;first|(refine .ixv 29 rfl hs ae ak ?_;intro b81 o81 hc81)|refine .z 29 rfl (zix ae ak) ?_
      refine .y 30 rfl hs aj ?_;refine .z 31 rfl tN ?_;refine .z 32 rfl zm ?_;refine .ie (t':=84) rfl (fun Mk=>?_) (fun Mk=>?_)
      ·refine .F 33 rfl (.F 34 rfl (.F 35 rfl (.F 36 rfl (.F 37 rfl (.F 38 rfl (.F 39 rfl (.F 40 rfl (.F 41 rfl (.zw 42 rfl zpT ?_)))))))));refine .z 43 rfl zpT ?_;refine .D hs ?_;refine (.cT (.draw mix rfl hs fun w hs=>?_));refine .y 0 rfl hs an ?_;refine .z 1 rfl (zfa eu) ?_;refine .y 2 rfl hs aj ?_;refine .y 3 rfl hs nq ?_;refine .z 4 rfl (zfa eu) ?_;refine .y 5 rfl hs aj ?_;refine .y 6 rfl hs an ?_;refine .z 7 rfl (zfa dV) ?_;refine .y 8 rfl hs aj ?_;first|(refine .ixv 9 rfl hs ae ak ?_;intro Z4 o105 UX)|refine .z 9 rfl (zix ae ak) ?_
       refine .y 10 rfl hs aj ?_;refine .z 11 rfl (zfa ic) ?_;refine .y 12 rfl hs aj ?_;refine .z 13 rfl cV ?_;refine .Jz (i:=14) (vs:=x.v) hs rfl aD .none rfl rn bD ?_;first|(refine .ixv 15 rfl hs ae ak ?_;intro Z1 o111 UU)|refine .z 15 rfl (zix ae ak) ?_
       refine .E 16 hs ?_;refine .store hs rfl rfl ak ?_;intro w hs;refine .go ?_;first|(refine .ixw 17 rfl hs aN bD ?_;intro Z0 o112 Fx)|refine .z 17 rfl (nH aN bD) ?_
       refine .E 18 hs ?_;refine .aJ (vs:=x.v) hs rfl rfl bD ?_;intro w hs;refine .go (.E 19 hs ?_);refine .store hs rfl rfl HK ?_;intro w hs;refine .go (.D hs (nB ?_));have:=Ek.less hg hx zj JP;exact ⟨H3,_,HLe.refl _,hs.tail,Fi,Ge.rlx x,true,rfl,Ek.BP hg hx zj JP,ai,fun _=>by omega⟩
      ·refine .y 33 rfl hs an ?_;refine .z 34 rfl (zfa dV) ?_;refine .y 35 rfl hs aj ?_;first|(refine .ixv 36 rfl hs ae ak ?_;intro b88 o88 xK)|refine .z 36 rfl (zix ae ak) ?_
       refine .y 37 rfl hs aj ?_;refine .z 38 rfl (zfa ic) ?_;refine .y 39 rfl hs aj ?_;refine .z 40 rfl cV ?_;refine .z 41 rfl gV ?_;refine .z 42 rfl zpF ?_;refine .z 43 rfl zpT ?_;refine .D hs ?_;refine (.bA rfl (fun YB=>?_) (fun YB=>?_))
       ·refine .draw mix rfl hs fun w hs=>?_
        refine .y 0 rfl hs an ?_;refine .z 1 rfl (zfa eu) ?_;refine .y 2 rfl hs aj ?_;refine .y 3 rfl hs nq ?_;refine .z 4 rfl (zfa eu) ?_;refine .y 5 rfl hs aj ?_;refine .y 6 rfl hs an ?_;refine .z 7 rfl (zfa dV) ?_;refine .y 8 rfl hs aj ?_;first|(refine .ixv 9 rfl hs ae ak ?_;intro Z4 o105 UX)|refine .z 9 rfl (zix ae ak) ?_
        refine .y 10 rfl hs aj ?_;refine .z 11 rfl (zfa ic) ?_;refine .y 12 rfl hs aj ?_;refine .z 13 rfl cV ?_;refine .Jz (i:=14) (vs:=x.v) hs rfl aD .none rfl rn bD ?_;first|(refine .ixv 15 rfl hs ae ak ?_;intro Z1 o111 UU)|refine .z 15 rfl (zix ae ak) ?_
        refine .E 16 hs ?_;refine .store hs rfl rfl ak ?_;intro w hs;refine .go ?_;first|(refine .ixw 17 rfl hs aN bD ?_;intro Z0 o112 Fx)|refine .z 17 rfl (nH aN bD) ?_
        refine .E 18 hs ?_;refine .aJ (vs:=x.v) hs rfl rfl bD ?_;intro w hs;refine .go (.E 19 hs ?_);refine .store hs rfl rfl HK ?_;intro w hs;refine .go (.D hs (nB ?_));have:=Ek.less hg hx zj JP;exact ⟨H3,_,HLe.refl _,hs.tail,Fi,Ge.rlx x,true,rfl,Ek.BP hg hx zj JP,ai,fun _=>by omega⟩
       ·refine .skip (nB ?_);have:=Ek.src x.t c2 ai;omega
     ·refine .F 23 rfl (.F 24 rfl (.F 25 rfl (.F 26 rfl (.F 27 rfl (.F 28 rfl (.F 29 rfl (.F 30 rfl ?_)))))));refine .F 31 rfl (.F 32 rfl (.F 33 rfl (.F 34 rfl (.F 35 rfl (.F 36 rfl (.F 37 rfl (.F 38 rfl (.F 39 rfl (.F 40 rfl (.F 41 rfl (.F 42 rfl (.zw 43 rfl zpF ?_))))))))))));refine .D hs ?_;exact (.cF (.skip (nB ⟨H3,_,HLe.refl _,hs.tail,Fi,Ge,ag,rfl,Ek.skip hx (fun h=>JP h.2),JH,Rs⟩)))
    ·refine .F 7 rfl (.F 8 rfl ?_);refine .F 9 rfl (.F 10 rfl (.F 11 rfl (.F 12 rfl (.F 13 rfl (.F 14 rfl (.F 15 rfl (.F 16 rfl (.F 17 rfl (.F 18 rfl (.F 19 rfl (.F 20 rfl (.zw 21 rfl zpF ?_))))))))))));refine .z 22 rfl zm ?_;refine .F 23 rfl (.F 24 rfl (.F 25 rfl (.F 26 rfl (.F 27 rfl (.F 28 rfl (.F 29 rfl (.F 30 rfl ?_)))))));refine .F 31 rfl (.F 32 rfl (.F 33 rfl (.F 34 rfl (.F 35 rfl (.F 36 rfl (.F 37 rfl (.F 38 rfl (.F 39 rfl (.F 40 rfl (.F 41 rfl (.F 42 rfl (.zw 43 rfl zpF ?_))))))))))));refine .D hs ?_;exact (.cF (.skip (nB ⟨H3,_,HLe.refl _,hs.tail,Fi,Ge,ag,rfl,Ek.skip hx (fun h=>zj h.1),JH,Rs⟩)))
   ·rintro D3 H3 Nr w cZ ⟨Fi,Ge,ag,rfl,Ek,JH,Rs⟩ hs;replace hs:St H3 w (.blk b9 [.bool ag]:: .blk b6 [.slice (some ⟨z6,0,none⟩) (N+1) (N+1)]:: .blk z6 (lX Ge.by_):: .blk b5 [.slice (some ⟨bc,0,none⟩) (N+1) (N+1)]:: .blk bc (Is Ge.cost):: .blk b2 [Pt bf]::(mes (D3::Ds)++σ)):=St.deep (σ1:=[_,_,_,_,_,_]) hs;rw [List.length_map] at Ek;refine nB (nB (nT (.af (.y hs (zld Kd) (.nil (.region (.o (.alloc hs zeroValue4 rfl fun b9 w hs=>?_))))))));refine .o (.store hs rfl rfl HK fun w hs=>?_);refine .nil (nT ?_);exact ⟨(b9,D3::Ds,H3,Ge,ag),aM,⟨az.trans (bp.trans cZ),⟨_,Ek,fun _=>rfl⟩,hs.sb⟩,by
      dsimp only
      cases ag with
      |false=>simp;omega
      |true=>have:=Rs rfl;simp;omega⟩
  ·refine .exit (xT (xT (xB (nT (.seq (.af ?_))))));subst nP;obtain rfl:=hj rfl;refine .y hs (zld an) (.z zm ?_);first|(refine .ixv hs ae ak ?_;intro b116 o116 aby)|refine .z (zix ae ak) ?_
   refine .y hs (zld aj) (.zn fJ (.bA rfl (fun Qg=>?_) (fun Qg=>?_)))
   ·refine .af (.zn zg (.ret (rT ((Fin.iG Ds [_,_,_,_,_,_] hs fun w hs=>⟨_,results1 results272 rfl,H1,[],.nul,az,.nil 4 none,(hs.sb).nul,hW.none hg Qg⟩)))))
   ·refine .skip (nT (.af (.zn zg (.seq (.af (.z zm (.zn zg (.block ?_))))))));have LJ:gi st.cost to<far:=by have:=hW.top to tD;have e:far=1152921504606846976:=rfl;omega
    obtain ⟨kk,cc,u,Mi,yw,OH,Gm,uw,Rc⟩:=hW.back hg tD LJ JG;refine .loop (fun p:Nat×Nat×Value×Ent=>⟨141,marks Ds,[(11,p.2.2.1),(12,I p.2.1),(6,Pt b6)]⟩)
     (fun p w=>p.1≤kk∧(p.2.1<N+1∧gi st.cost p.2.1<far)∧dj 4 p.2.2.1 (lX (kU st.by_ to p.1)) p.2.2.2∧(∃d,jv st.by_ to p.1 d p.2.1)∧(∃d,jv st.by_ p.2.1 (kk - p.1) d u)∧
      St H1 w (p.2.2.2:: .blk b9 [.bool false]:: .blk b6 [.slice (some ⟨z6,0,none⟩) (N+1) (N+1)]:: .blk z6 (lX st.by_):: .blk b5 [.slice (some ⟨bc,0,none⟩) (N+1) (N+1)]:: .blk bc (Is st.cost):: .blk b2 [Pt bf]::(mes Ds++σ)))
     (fun p=>kk - p.1) (0,to,.slice none 0 0,.nul) aM ⟨Nat.zero_le _,⟨tD,LJ⟩,.nil 4 none,⟨0,.nil⟩,⟨cc,Mi⟩,hs.nul⟩ ?_
    rintro ⟨i,v,v11,en⟩ w ⟨Yf,⟨aaG,SR⟩,hO,⟨d1,Ej⟩,⟨d2,BD⟩,hs⟩;dsimp only at Yf aaG SR hO Ej BD hs ⊢;have Xw:v<st.by_.length:=by omega
    refine .seq (.af (.y hs (zld nq) (.z zm ?_)));first|(refine .ixw hs aN bD ?_;intro b122 o122 abw)|refine .z (nH aN bD) ?_
    refine .z (zfa eU) (.q hs (eQ rfl aj (hv:=(wO Xw (j:=3) ai).trans rfl)) (.zn tN (.bA rfl (fun Md=>?_) (fun Md=>?_))))
    ·refine .skip (nT (.seq (.block (.region (.z zm (.y hs (zld nq) (.z zm ?_)))))));first|(refine .ixw hs aN bD ?_;intro ZU o134 ID)|refine .z (nH aN bD) ?_
     refine .q hs (nM (vs:=(ga st.by_ v).v) rfl rn bD (hv:=Jb Xw)) (.o (.buildSlice (cells:=(ga st.by_ v).v) hs uF rfl rfl fun ZT w hs=>?_));refine .o (.append (ys:=(ga st.by_ v).v) hs ny rfl rfl hO (.own .here rfl rfl) (by simp [Arc.v,Value.oneCell']) (fun l h=>by rw [eR,jX] at h;omega) ?_);intro v137 en137 w eG hs;refine .zn zg (nB (nT (.region (.y hs (zld nq) (.z zm ?_)))));first|(refine .ixw hs aN bD ?_;intro ZV o128 UQ)|refine .z (nH aN bD) ?_
     refine .z (zfa dV) (.q hs (eQ rfl aj (hv:=(wO Xw (j:=0) ai).trans rfl)) (.zn zg (nT ?_)));obtain ⟨g1,g2⟩:=uw v aaG SR Md;obtain ⟨m,hm⟩:∃m,kk - i=m+1:=by
      refine ⟨kk - i - 1,?_⟩
      rcases Nat.lt_or_ge i kk with h|h
      ·omega
      ·obtain e:kk - i=0:=by omega
       rw [e] at BD;cases BD
       omega
     rw [hm] at BD
     obtain ⟨d3,S9⟩:∃d,jv st.by_ (ga st.by_ v).f m d u:=by cases BD with|cons _ t=>exact ⟨_,t⟩
     rw [←Ng,←Cn Ej] at eG;exact ⟨(i+1,(ga st.by_ v).f,v137,en137),aM,⟨by dsimp only;omega,⟨g1,g2⟩,eG,⟨_,Ej.trans (.cons Md .nil)⟩,⟨d3,by rw [show kk - (i+1)=m by omega];exact S9⟩,hs.sb⟩,by dsimp only;omega⟩
    ·refine .exit (xT (xT (xB (nT (.af ?_)))));obtain rfl:i=kk:=by
      rcases Nat.lt_or_ge i kk with h|h
      ·obtain ⟨m,hm⟩:∃m,kk - i=m+1:=⟨kk - i - 1,ai⟩;rw [hm] at BD
       cases BD with
       |cons hl _=>omega
      ·omega
     refine .z zm (.o (.call call297 rfl (tT hs hO (by rw [jX];omega)) ?_));rintro v139 w ⟨l5,Vg,hs⟩;refine .nil (.af (.z zm (.zn zg (.ret (Fin.iG Ds [_,_,_,_,_,_,_] hs fun w hs=>⟨_,results1 results272 rfl,H1,_,l5,az,Vg,hs.sb,Rc _ rfl⟩)))))
theorem I9{s:dz}{x:Arc}(aU:s.Ok)(hx:J9 s.dL x):∃(i:Nat) (l:Lim),s.dt[i]? =some l∧x.l=(i:Int)∧(l.A=(x.f:Int)↔fwd s.dL x)∧i<s.dt.length:=by
 obtain ⟨i,y,h1,h2⟩:=hx;have hl:=wJ h1;have fD:i<s.dt.length:=by have:=(List.getElem?_eq_some_iff.1 h1).1;simpa [dz.dL,fo] using this
 obtain ⟨l,OG⟩:=nth fD;have h3:=mi OG;have Qm:(pS s.dt)[i]? =some y:=h1;rw [h3] at Qm;cases Qm
 obtain ⟨a1,a2,_⟩:=aU.arc (List.mem_of_getElem? OG) i;refine ⟨i,l,OG,?_,?_,fD⟩
 ·rcases h2 with rfl|rfl<;>rfl
 ·have hg:ga s.dL i=l.arc i:=by simp [ga,dz.dL,h3]
  have yv:x.l.toNat=i:=by rcases h2 with rfl|rfl<;>rfl
  unfold fwd;rw [yv,hg,←a1];exact ⟨fun e=>by exact_mod_cast e,fun e=>by exact_mod_cast e⟩
theorem mI{w:World}{s:dz}{vd:Value}{x:Arc}(hs:St H w σ)(aU:s.Ok)(hf:Row H bf [I s.many,vl,vt,vd])(hl:RL H vl s.dt)(hx:J9 s.dL x):
  ab8 298 [Pt bf,.agg x.v.toArray] w fun v w'=>v= .bool (decide (fwd s.dL x))∧St H w' σ:=by
 obtain ⟨i,l,LS,yv,hfw,qL⟩:=I9 aU hx;have hf1:cellAt H bf 1=some vl:=hf.at 1;refine Cl.o func298 ntmps298 ag2 ?_;refine .af (.bx hs fun b3 w hs=>?_);refine .zn zg (.seq (.draw mix rfl hs fun w hs=>?_));refine .zw 0 rfl zm ?_;refine .z 1 rfl znc ?_;refine .z 2 rfl (zfa jo) ?_;refine .z 3 rfl (zfa cn) ?_;refine .y 4 rfl hs fc ?_;refine .z 5 rfl (zfa eU) ?_;refine .y 6 rfl hs aj ?_;refine .ixX (i:=7) hs rfl aD .none hl rfl rfl bj cD LS yv ?_;intro En o12 fk;have hA:cellAt H En o12=some (I l.A):=fk.get 0 rfl;refine .zw 8 rfl (zfa eN) ?_;refine .y 9 rfl hs aj ?_;refine .z 10 rfl (zfa dV) ?_;refine .y 11 rfl hs aj ?_;refine .z 12 rfl fJ ?_;refine .z 13 rfl zg ?_;refine .D hs ?_;exact .ret (Fin.bu results298 rfl ⟨by simp only [decide_eq_decide.2 hfw],hs.out⟩)
theorem tq{w:World}{u v:Nat}{s:dz}{wt:Nat→Int}{p:List Arc}(hs:St H w (.blk bt (Is ts):: .blk bl (Is lf++sp)::σ))(aU:s.Ok)
  (hf:Row H bf [I s.many,vl,.slice (some ⟨bt,0,none⟩) ts.length ts.length,.slice (some ⟨bl,0,none⟩) lf.length cl]) (hl:RL H vl s.dt) (hp:RS H 4 vp (p.map Arc.v)) (hI:Cg s.n s.dL wt ts lf) (hw:SD s.dL ts lf s.n p u v) (Rn:p≠[]) (Kj:p.length<s.n):
  ab8 273 [Pt bf,vp] w fun _ w'=>St H w' (.blk bt (Is (gO s.dL (vM s.dL ts lf p u v) ts p)):: .blk bl (Is (E0 lf (vM s.dL ts lf p u v) u v)++sp)::σ):=by
 have Zo:=aU.m1;have xG:s.n≤65:=by simp only [dz.n];have:=aU.m0;omega
 have zd:HD s.dL:=fun i x hx=>⟨wJ hx,(aU.dL.2 x (List.mem_of_getElem? hx)).2.2.2.2.2⟩
 have fD:=hI.lt;have wS:=hI.ll;obtain ⟨m0,m1,m2,m3⟩:=zM fD.symm zd hw;have hsu:=hI.sg u hw.un;have aaK:=hI.sg v hw.vn;have PT:u<lf.length:=by rw [wS];exact hw.un
 have Wg:v<lf.length:=by rw [wS];exact hw.vn
 obtain ⟨a,cap,aaE⟩:=hp.shape;rw [List.length_map] at aaE;subst aaE;have hp0:0<p.length:=List.length_pos_iff.2 Rn;obtain ⟨x0,Eg⟩:=nth hp0;obtain ⟨x1,za⟩:=nth (l:=p) (k:=p.length - 1) ai;have hh:=hw.ch.head Eg;have S1:=hw.ch.last za;have aa9:cellAt H bf 2=some (.slice (some ⟨bt,0,none⟩) ts.length ts.length):=hf.at 2;have Ws:cellAt H bf 3=some (.slice (some ⟨bl,0,none⟩) lf.length cl):=hf.at 3;have Ux:∀x∈p,J9 s.dL x∧x.l.toNat<ts.length∧x.l=(x.l.toNat:Int):=fun x hx=>by
  obtain ⟨g1,g2,_⟩:=ml fD.symm zd (hw.mem x hx);obtain ⟨i,l,_,g3,_⟩:=I9 aU g1;exact ⟨g1,g2,by rw [g3];simp⟩
 simp only [FF] at hsu aaK;have PS:v≠u:=fun e=>by have:=hw.lu;have:=hw.lv;rw [e] at*;omega
 have htt:∀i<ts.length,0≤gi ts i∧gi ts i≤3600000000000:=fun i hi=>by
  have h1:=hI.nn i ai;have h2:=hI.tb i ai;have h3:0≤rem s.n lf:=dB fun v _=>by omega
  simp only [FF] at h2;omega
 have hM:vM s.dL ts lf p u v=least s.dL ts (min (-gi lf u) (gi lf v)) p:=rfl;generalize vM s.dL ts lf p u v=M at*;have Yj:gi (lf.set u (gi lf u+M)) v=gi lf v:=by rw [fi PT,if_neg PS]
 refine Cl.o func273 ntmps273 ag2 ?_;refine .seq (.draw mix rfl hs fun w hs=>?_);refine .zw 0 rfl zm (.ixX (i:=1) hs rfl aD .none hp rfl rfl aN bD Eg rfl ?_);intro En o12 fk;have h14:cellAt H En (o12+0)=some (I u):=by rw [←hh];exact fk.get 0 rfl
 refine .zw 2 rfl (zfa dV) ?_;refine .y 3 rfl hs aj ?_;refine .z 4 rfl zm ?_;refine .z 5 rfl zm ?_;refine .z 6 rfl (dk aN) ?_;refine .z 7 rfl gE ?_;refine .ixX (i:=8) hs rfl aD .none hp rfl rfl aN bD za ai ?_;intro pX o19 lM;have h21:cellAt H pX (o19+1)=some (I v):=by rw [←S1];exact lM.get 1 rfl
 refine .zw 9 rfl (zfa eu) ?_;refine .y 10 rfl hs aj ?_;refine .z 11 rfl zg ?_;refine .z 12 rfl zg ?_;refine .D hs ?_;refine .seq (.draw mix rfl hs fun w hs=>?_);refine .zw 0 rfl zm ?_;refine .z 1 rfl znc ?_;refine .z 2 rfl (zfa eV) ?_;refine .y 3 rfl hs an ?_;refine .z 4 rfl zm ?_;first|(refine .ixv 5 rfl hs ae ak ?_;intro z6 o27 nS)|refine .z 5 rfl (zix ae ak) ?_
 refine .load (i:=6) hs rfl aD .none rfl aj ?_ (hv:=ik PT sp);refine .zw 7 rfl BM ?_;refine .z 8 rfl zm ?_;refine .z 9 rfl znc ?_;refine .z 10 rfl (zfa eV) ?_;refine .y 11 rfl hs an ?_;refine .z 12 rfl zm ?_;first|(refine .ixv 13 rfl hs ae ak ?_;intro Po o35 nv)|refine .z 13 rfl (zix ae ak) ?_
 refine .load (i:=14) hs rfl aD .none rfl aj ?_ (hv:=ik Wg sp);refine .zw 15 rfl EE ?_;refine .z 16 rfl zg ?_;refine .D hs ?_;refine .seq (.af (.z zm (.z (dk aN) (.zn zm (.for (N:=p.length) (J:=fun k fr w=>fr=[(38,.slice a p.length cap),(6,I (least s.dL ts (min (-gi lf u) (gi lf v)) (p.take k))),(0,Pt bf),(1,.slice a p.length cap),(4,I u),(5,I v)]∧St H w (.blk bt (Is ts):: .blk bl (Is lf++sp)::σ)) ai ?_ ?_ ?_)))))
 ·exact .mk ⟨rfl,hs⟩
 ·rintro k fr w hk ⟨rfl,hs⟩;obtain ⟨x,hx⟩:=nth hk;obtain ⟨g1,g2,g3⟩:=Ux x (List.mem_of_getElem? hx);refine .block (.af (.ixX hs hp rfl rfl aN bD hx rfl ?_));intro VH o42 Fq;refine .q hs (cj (vs:=x.v) rfl rn bD Fq) (.o (.alloc hs jt rfl fun b8 w hs=>?_));refine .o (.aJ (vs:=x.v) hs rfl rfl bD fun w hs=>?_);refine .nil (.af (.z zm (.q hs (nM (vs:=x.v) rfl rn bD) (.o (.call call298 rfl (mI hs aU hf hl g1) ?_)))));rintro _ w ⟨rfl,hs⟩;refine .zn fE (.cond rfl (fun oT=>?_) (fun oT=>?_))
  ·refine .draw mix rfl hs fun w hs=>?_
   refine .zw 0 rfl zm ?_;refine .z 1 rfl zm ?_;refine .z 2 rfl znc ?_;refine .z 3 rfl (zfa jn) ?_;refine .y 4 rfl hs an ?_;refine .z 5 rfl (zfa eU) ?_;refine .y 6 rfl hs aj ?_;refine .zw 7 rfl (eH (k:=x.l.toNat) rfl rfl ae ak g3 g2) (.y 8 rfl hs aj ?_);refine .z 9 rfl EE ?_;refine .z 10 rfl zg ?_;refine .D hs ?_;refine nB (nT ?_);have e:min (least s.dL ts (min (-gi lf u) (gi lf v)) (p.take k)) (gi ts x.l.toNat)=least s.dL ts (min (-gi lf u) (gi lf v)) (p.take (k+1)):=by rw [dX hx,pG,if_neg (by simpa using oT)]
   exact .mk ⟨rfl,hs.tail⟩ (hs:= .cons rfl (.cons rfl (.cons rfl (.da rfl e (.cons rfl (.cons rfl (.cons rfl (.cons rfl (.nil rfl rfl)))))))))
  ·refine .skip (nB (nT ?_));have e:least s.dL ts (min (-gi lf u) (gi lf v)) (p.take k)=least s.dL ts (min (-gi lf u) (gi lf v)) (p.take (k+1)):=by rw [dX hx,pG,if_pos (by simpa using oT)]
   exact .mk ⟨rfl,hs.tail⟩ (hs:= .cons rfl (.cons rfl (.cons rfl (.da rfl e (.cons rfl (.cons rfl (.cons rfl (.cons rfl (.nil rfl rfl)))))))))
 ·rintro fr w ⟨rfl,hs⟩;have e6:least s.dL ts (min (-gi lf u) (gi lf v)) (List.take p.length p)=M:=by rw [List.take_length];exact hM.symm
  rw [e6];refine nT (.seq (.af (.z zm (.z (dk aN) (.zn zm (.for (N:=p.length) (J:=fun k fr w=>fr=[(59,.slice a p.length cap),(6,I M),(0,Pt bf),(1,.slice a p.length cap),(4,I u),(5,I v)]∧St H w (.blk bt (Is (gO s.dL M ts (p.take k))):: .blk bl (Is lf++sp)::σ)) ai ?_ ?_ ?_))))))
  ·exact .mk ⟨rfl,hs⟩
  ·rintro k fr w hk ⟨rfl,hs⟩;obtain ⟨x,hx⟩:=nth hk;obtain ⟨g1,g2,g3⟩:=Ux x (List.mem_of_getElem? hx);have hpl2:=lF s.dL M (p.take k) ts;have zR:=EW (es:=s.dL) (m:=M) (ts:=ts) (p:=p.take k) ai (by simp only [FF];omega) (by rw [List.length_take];omega) (fun y hy=>(Ux y (List.mem_of_mem_take hy)).2.1) x.l.toNat;have h9:=htt _ g2;refine .block (.af (.ixX hs hp rfl rfl aN bD hx rfl ?_));intro VE o63 oq;refine .q hs (cj (vs:=x.v) rfl rn bD oq) (.o (.alloc hs jt rfl fun pb w hs=>?_));refine .o (.aJ (vs:=x.v) hs rfl rfl bD fun w hs=>?_);refine .nil (.af (.z zm (.q hs (nM (vs:=x.v) rfl rn bD) (.o (.call call298 rfl (mI hs aU hf hl g1) ?_)))));rintro _ w ⟨rfl,hs⟩;refine .nil (.cond rfl (fun DL=>?_) (fun DL=>?_))
   ·refine .draw mix rfl hs fun w hs=>?_
    refine .zw 0 rfl zm ?_;refine .z 1 rfl znc ?_;refine .z 2 rfl (zfa jn) ?_;refine .y 3 rfl hs an ?_;refine .z 4 rfl (zfa eU) ?_;refine .y 5 rfl hs aj ?_;refine .zw 6 rfl (eH (k:=x.l.toNat) rfl rfl ae ak g3 g2) (.y 7 rfl hs aj ?_);refine .z 8 rfl zm ?_;refine .z 9 rfl cV ?_;refine .zw 10 rfl (eH (k:=x.l.toNat) rfl rfl ae ak g3 g2) (.E 11 hs ?_);refine .store hs rfl rfl ak ?_;intro w hs;refine .go (.D hs (nB (nT ?_)));have e:gO s.dL M ts (p.take (k+1))=(gO s.dL M ts (p.take k)).set x.l.toNat (gi (gO s.dL M ts (p.take k)) x.l.toNat+M):=by rw [dX hx,qa,push,if_pos (by simpa using DL)]
    exact .mk ⟨rfl,by rw [e];exact hs.tail⟩
   ·refine .draw mix rfl hs fun w hs=>?_
    refine .zw 0 rfl zm ?_;refine .z 1 rfl znc ?_;refine .z 2 rfl (zfa jn) ?_;refine .y 3 rfl hs an ?_;refine .z 4 rfl (zfa eU) ?_;refine .y 5 rfl hs aj ?_;refine .zw 6 rfl (eH (k:=x.l.toNat) rfl rfl ae ak g3 g2) (.y 7 rfl hs aj ?_);refine .z 8 rfl zm ?_;refine .z 9 rfl gE ?_;refine .zw 10 rfl (eH (k:=x.l.toNat) rfl rfl ae ak g3 g2) (.E 11 hs ?_);refine .store hs rfl rfl ak ?_;intro w hs;refine .go (.D hs (nB (nT ?_)));have e:gO s.dL M ts (p.take (k+1))=(gO s.dL M ts (p.take k)).set x.l.toNat (gi (gO s.dL M ts (p.take k)) x.l.toNat - M):=by rw [dX hx,qa,push,if_neg (by simpa using DL)]
    exact .mk ⟨rfl,by rw [e];exact hs.tail⟩
  ·rintro fr w ⟨rfl,hs⟩;rw [List.take_length] at hs;refine nT (.af (.z zm (.z znc (.z (zfa eV) (.y hs (zld an) (.z zm ?_))))));first|(refine .ixv hs ae ak ?_;intro b96 o96 ON)|refine .z (zix ae ak) ?_
   refine .q hs (eQ rfl aj (hv:=ik PT sp)) (.z zm (.z cV ?_));first|(refine .ixv hs ae ak ?_;intro SB o100 nU)|refine .z (zix ae ak) ?_
   refine .o (.store hs rfl rfl ak ?_ dC (nY PT sp) (kM PT sp _));intro w hs;refine .nil (.region (.z zm (.z znc (.z (zfa eV) (.y hs (zld an) (.z zm ?_))))));first|(refine .ixv hs ae ak ?_;intro VO o106 tF)|refine .z (zix ae ak) ?_
   refine .q hs (eQ rfl aj (hv:=ik (by rw [List.length_set];exact Wg) sp)) ?_;refine .z zm (.z gE ?_);first|(refine .ixv hs ae ak ?_;intro Z2 o110 UW)|refine .z (zix ae ak) ?_
   refine .o (.store hs rfl rfl ak ?_ dC (nY (by rw [List.length_set];exact Wg) sp) (kM (by rw [List.length_set];exact Wg) sp _));intro w hs;exact .nil (Fin.FR results273 hs)
theorem Lp{w:List Int}{N:Nat}(hw:w.length=N+1):gi (w.set 0 (-ng w k)) 0 - gi (w.set 0 (-ng w k)) (k+1)= -ng w (k+1):=by
 rw [fi ai,fi ai,if_pos rfl,if_neg ai];simp only [ng,a8];omega
theorem Bh{w:World}{v:Value}{s:dz}(hs:St H w σ)(aU:s.Ok)(hr:RSy H v s)(oS:RI H vw ws)(BC:ws.length=s.n)(ur:jT ws)(LG:s.Sound):
  ab8 224 [v,vw] w fun v w'=>(v= .tuple #[.pointer none,.bool false]∧pU s.dL (pZ ws s.n) s.n∧St H w' σ)∨
   (∃H1 bf bt bl cl ts lf vl sp,HLe H H1∧v= .tuple #[Pt bf,.bool true]∧Br H1 bf s ts lf vl bt bl cl sp∧sJ s.n s.dL (pZ ws s.n) ts∧St H1 w' σ):=by
 obtain ⟨vl,rfl,hr⟩:=hr;obtain ⟨al,cpl,rfl⟩:=RL.shape hr;obtain ⟨aw,cw,rfl⟩:=RI.shape oS;obtain ⟨N,hN⟩:=Int.eq_ofNat_of_zero_le aU.m0;have Zo:=aU.m1;have hn:s.n=N+1:=by simp [dz.n,hN]
 have OE:=aU.len;have vS:=aU.dL;have Hf:s.dL.length=s.dt.length:=by simp [dz.dL,fo]
 have zd:HD s.dL:=fun i x hx=>⟨wJ hx,(aU.dL.2 x (List.mem_of_getElem? hx)).2.2.2.2.2⟩
 have ib:∀x∈s.dL,x.f<s.n∧x.t<s.n:=fun x hx=>by have:=vS.2 x hx;omega
 have Xs:=Kv ws (n:=s.n) ai;unfold jT at ur;rw [BC] at ur;refine Cl.o func224 ntmps224 ag2 ?_;refine .af (.bx hs fun b2 w hs=>?_);refine .z zg (.zn zg (.scope (.cut (fun fs w=>∃bf bt bl cl sp,lr fs ⟨73,[],[(6,Pt bf)]⟩∧St H w (.blk bf [I s.many,.slice al s.dt.length cpl,.slice (some ⟨bt,0,none⟩) s.dt.length s.dt.length,.slice (some ⟨bl,0,none⟩) ws.length cl]:: .blk bt (Is (List.replicate s.dt.length 0)):: .blk bl (Is ws++sp)::σ)) ?_ ?_)))
 ·refine .draw mix rfl hs fun w hs=>?_
  refine .ys 0 rfl hs [_,_] bT aQ ?_;refine .z 1 rfl (zfa cn) ?_;refine .y 2 rfl hs fc ?_;refine .z 3 rfl (dk bj) ?_;refine .z 5 rfl zm ?_;refine .e2 (i:=4) (j:=6) aD rfl rfl rfl rfl .none .none hs ?_ ?_
  ·refine .vO s.dt.length hs rfl rfl ae jK rfl ak dA ai ?_;intro Gq w hs;refine .go (.E 6 hs ?_);refine .call call171 rfl (qu hs oS ai) ?_;rintro v17 w ⟨en17,hO,hs⟩;obtain ⟨bl,cl,sp,rfl,rfl,Gi⟩:=hO.some ai;refine .go (.zw 7 rfl (zbd [_,_,_,_] tJ) (.E 8 hs ?_));refine .box hs rfl rfl ?_;intro pX w hs;refine .go (.zw 9 rfl zg ?_);refine .D hs ?_;exact nT ⟨pX,Gq,bl,cl,sp,aM,hs.sb⟩
  ·refine .call call171 rfl (qu hs oS ai) ?_;rintro v17 w ⟨en17,hO,hs⟩;obtain ⟨bl,cl,sp,rfl,rfl,Gi⟩:=hO.some ai;refine .go (.E 4 hs ?_);refine .vO s.dt.length hs rfl rfl ae jK rfl ak dA ai ?_;intro Gq w hs;refine .go (.zw 7 rfl (zbd [_,_,_,_] tJ) (.E 8 hs ?_));refine .box hs rfl rfl ?_;intro pX w hs;refine .go (.zw 9 rfl zg ?_);refine .D hs ?_;exact nT ⟨pX,Gq,bl,cl,sp,aM,hs.sb⟩
 ·rintro fs w ⟨bf,bt,bl,cl,sp,gP,hs⟩;refine WE.sub ?_ gP;obtain ⟨H1,az,Y6,hs⟩:=hs.dn .here;have hf0:cellAt H1 bf 0=some (I (N:Int)):=by have:=Y6.at 0 (v:=I s.many);rwa [hN] at this
  have Ws:cellAt H1 bf 3=some (.slice (some ⟨bl,0,none⟩) ws.length cl):=Y6.at 3;have Ff:=hr.mono az;refine .af (.z zm (.z znc (.z (zfa eV) (.y hs (zld an) (.q hs (eH (k:=0) rfl rfl ae ak rfl ai) (.o (.store hs rfl rfl ak ?_ dC (nY ai sp) (kM ai sp _))))))));intro w hs;refine .nil (.seq (.af (.z zm (.z znc (.z (zfa jo) (.z (zfa cz) (.y hs (zld aj) (.zn zm (.for (N:=N) (J:=fun k fr w=>fr=[(6,Pt bf)]∧St H1 w (.blk bt (Is (List.replicate s.dt.length 0)):: .blk bl (Is (ws.set 0 (-ng ws k))++sp)::σ)) ai ?_ ?_ ?_)))))))))
  ·exact .mk ⟨rfl,by simpa [ng,a8] using hs⟩
  ·rintro k fr w hk ⟨rfl,hs⟩;have e:=Lp (w:=ws) (N:=N) (k:=k) ai;have Ej:=xf ws (k+1);have BD:bU ws (k+1+1)≤bU ws s.n:=po (fun v=>by omega) ai;simp only [FF] at ur;refine .block (.af (.z zm (.zn zg (.draw mix rfl hs fun w hs=>?_))));refine .zw 0 rfl zm ?_;refine .z 1 rfl znc ?_;refine .z 2 rfl (zfa eV) ?_;refine .y 3 rfl hs an ?_;refine .zw 4 rfl (eH (k:=0) rfl rfl ae ak rfl ai) (.load (i:=5) hs rfl aD .none rfl aj ?_ (hv:=ik (by rw [List.length_set];omega) sp));refine .zw 6 rfl zm ?_;refine .z 7 rfl znc ?_;refine .z 8 rfl (zfa eV) ?_;refine .y 9 rfl hs an ?_;refine .z 10 rfl zm ?_;refine .z 11 rfl cV ?_;refine .zw 12 rfl (eH (k:=k+1) rfl rfl ae ak ai ai) (.load (i:=13) hs rfl aD .none rfl aj ?_ (hv:=ik (by rw [List.length_set];omega) sp));refine .zw 14 rfl gE (.zw 15 rfl (eH (k:=0) rfl rfl ae ak rfl ai) (.E 16 hs ?_));refine .store hs rfl rfl ak ?_ dC (nY (by rw [List.length_set];omega) sp) (kM (by rw [List.length_set];omega) sp _);intro w hs;refine .go (.D hs (nB (nT ?_)));rw [e,List.set_set] at hs;exact .mk ⟨rfl,hs⟩
  ·rintro fr w ⟨rfl,hs⟩;have CI:Cg s.n s.dL (pZ ws s.n) (List.replicate s.dt.length 0) (ws.set 0 (-ng ws N)):=by
    rw [←Hf,hn];rw [hn] at ur;refine Cg.start ur (by rw [List.length_set];omega) (fun v hv=>?_) LG;rw [fi ai]
    cases v with
    |zero=>rw [if_pos rfl,CZ]
    |succ v=>rw [if_neg ai,C0]
   refine nT (.seq (.label (nT (.block ?_))));refine .loop (fun _:cK×List Int×List Int=>⟨73,[],[(6,Pt bf)]⟩)
    (fun p w=>HLe H1 p.1∧Cg s.n s.dL (pZ ws s.n) p.2.1 p.2.2∧St p.1 w (.blk bt (Is p.2.1):: .blk bl (Is p.2.2++sp)::σ)) (fun p=>(rem s.n p.2.2).toNat) (H1,List.replicate s.dt.length 0,ws.set 0 (-ng ws N))
    aM ⟨HLe.refl _,CI,hs⟩ ?_
   rintro ⟨H2,ts,lf⟩ w ⟨bp,hI,hs⟩;dsimp only at bp hI hs ⊢;have fD:=hI.lt;have wS:=hI.ll;have OY:Row H2 bf [I s.many,.slice al s.dt.length cpl,.slice (some ⟨bt,0,none⟩) ts.length ts.length,.slice (some ⟨bl,0,none⟩) lf.length cl]:=by
    rw [fD,Hf,wS,←BC];exact Y6.mono bp
   have hf32:cellAt H2 bf 3=some (.slice (some ⟨bl,0,none⟩) lf.length cl):=OY.at 3;refine .block (.seq (.af (.z zm (.z znc (.z (zfa eV) (.y hs (zld an) (.z (dk ae) (.zn zm (.for (N:=lf.length) (J:=fun k fr w=>fr=[(53,.slice (some ⟨bl,0,none⟩) lf.length cl),(6,Pt bf)]∧(∀v<k,gi lf v≤0)∧St H2 w (.blk bt (Is ts):: .blk bl (Is lf++sp)::σ)) ai ?_ ?_ ?_)))))))))
   ·exact .mk ⟨rfl,fun v hv=>by omega,hs⟩
   ·rintro k fr w hk ⟨rfl,gq,hs⟩;refine .block (.af (.z zm ?_));first|(refine .ixv hs ae ak ?_;intro ab2 o58 zh)|refine .z (zix ae ak) ?_
    refine .q hs (eQ rfl aj (hv:=ik hk sp)) (.z zg (.zn zg (.seq (.af (.z zm (.zn pc (.bA rfl (fun qh=>?_) (fun qh=>?_))))))))
    ·refine .exit (xT (xB (nT ?_)));exact .mk ⟨rfl,fun v hv=>by
       by_cases e:v=k
       ·subst e;exact qh
       ·exact gq v ai,hs⟩
    ·refine .skip (nT (.af (.z zm (.z zm ?_))));obtain ⟨Ha,S1,hra,hsa,-,abB⟩:=hs.Ir;obtain ⟨Hb,Ei,hrb,hsb,-,DM⟩:=hsa.Ir;refine .o (.call call272 rfl (uD (s:=s) (to:=k) hsb aU ⟨OY.mono (S1.trans Ei),hr.mono (az.trans (bp.trans (S1.trans Ei))),hra.mono Ei,hrb⟩ ai ai hI.fe ai ai) ?_);rintro v64 w ⟨Hc,p,en,Gl,hO,hsc,abI⟩;have hs:=abB (HLe.refl _) (DM Gl hsc);obtain ⟨ap,lp,cp,rfl,hlp⟩:=hO.shape;obtain rfl:lp=p.length:=by rw [eR] at hlp;omega
     refine .zn zg (.seq (.af (.z zm (.z (dk aN) (.zn fJ (.bA rfl (fun DL=>?_) (fun DL=>?_)))))))
     ·refine .af (.z zg (.zn zg (.ret (rT (rB (rT (rB (rT (rB (rT (rB (rS (Fin.iz results224 rfl rfl ?_)))))))))))))
      rcases abI with ⟨_,R,hS,hR,tD⟩|⟨hp,_⟩
      ·exact .inl ⟨rfl,hI.open ib hS hR ai tD ai,(hs.le (az.trans bp)).out⟩
      ·exact (hp (List.length_eq_zero_iff.1 ai)).elim
     ·refine .skip (nT (.af (.z zm (.z zm ?_))));obtain ⟨hp,Kj,u,hw⟩:=abI.resolve_left fun h=>by rw [h.1] at DL;exact DL rfl
      obtain ⟨H3,cZ,hRS,hs⟩:=dj.dn (cs:=p.map Arc.v) hO (fun c hc=>by simp only [List.mem_map] at hc;obtain ⟨x,_,rfl⟩:=hc;rfl) ai (by rw [List.length_map];omega) hs dC;refine .o (.call call273 rfl (tq hs aU (OY.mono cZ) (hr.mono (az.trans (bp.trans cZ))) hRS hI hw hp Kj) ?_);rintro v70 w hs;refine .nil (.exit (xN (xT (xN (xT (xB (nT ?_)))))));obtain ⟨q1,q2⟩:=hI.send zd hw ai;have q3:0≤rem s.n (E0 lf (vM s.dL ts lf p u k) u k):=dB fun v _=>by omega
      exact ⟨(H3,gO s.dL (vM s.dL ts lf p u k) ts p,E0 lf (vM s.dL ts lf p u k) u k),aM,⟨bp.trans cZ,q1,hs⟩,by dsimp only;omega⟩
   ·rintro fr w ⟨rfl,gq,hs⟩;refine nT (.af (.z zm (.z zg (.zn zg (.ret (rB (rT (rB (rS (Fin.iz results224 rfl rfl ?_))))))))));obtain ⟨H3,l3,r3,hs⟩:=hs.dn .here;obtain ⟨H4,l4,r4,hs⟩:=hs.dn .here;exact .inr ⟨H4,bf,bt,bl,cl,ts,lf,_,sp,az.trans (bp.trans (l3.trans l4)),rfl,⟨OY.mono (l3.trans l4),hr.mono (az.trans (bp.trans (l3.trans l4))),r3.mono l4,r4⟩,hI.ok ib Xs (fun v hv=>gq v ai),hs⟩
theorem wy{w:World}{v:Value}(hs:St H w σ)(hr:RI H v ws):ab8 271 [v] w fun v w'=>∃b,v= .bool b∧(b=true↔jT ws)∧St H w' σ:=by
 obtain ⟨a,c,rfl⟩:=RI.shape hr;have hl:=(RI.len hr).2.2;refine Cl.o func271 ntmps271 ag1 ?_;refine .af (.zn zg (.af (.zn zg (.seq (.af (.z zm (.z (dk ae) (.zn zm (.for (N:=ws.length) (J:=fun k fr w=>fr=[(6,.slice a ws.length c),(3,I (3600000000000 - bU ws k))]∧bU ws k≤3600000000000∧St H w σ) ai ?_ ?_ ?_)))))))))
 ·exact .mk ⟨rfl,by simp [bU,a8],hs⟩
 ·rintro k fr w hk ⟨rfl,hle,hs⟩;have hx:=bG hk;have h0:0≤bU ws k:=dB fun v _=>by omega
  have h1:bU ws (k+1)=bU ws k+max (gi ws k) (-gi ws k):=rfl;refine .block (.af ?_);first|(refine .ixv hs ae ak ?_;intro pb o10 mB)|refine .z (zix ae ak) ?_
  refine .y hs (zld aj) (.zn zg (.seq (.af (.z zm (.z zm (.z BM (.z gV (.z zm (.ie (t':=16) rfl (fun sc=>?_) (fun sc=>?_))))))))))
  ·exact .Fs 3 4 false (.zn zpT (.cT (.af (.zn zg (.ret (rT (rB (rT (rB (rT (Fin.bu results271 rfl ⟨false,rfl,⟨fun h=>(by cases h),fun h=>(pw (k:=k+1) hk (by simp only [FF];omega) h).elim⟩,hs⟩)))))))))))
  ·refine .T (.z zm (.T (.z zm (.T (.z ld (.zn zpF (.bA rfl (fun mU=>?_) (fun mU=>?_))))))))
   ·exact .af (.zn zg (.ret (rT (rB (rT (rB (rT (Fin.bu results271 rfl ⟨false,rfl,⟨fun h=>(by cases h),fun h=>(pw (k:=k+1) hk (by simp only [FF];omega) h).elim⟩,hs⟩))))))))
   ·exact .skip (nT (.region (.z zm (.z zm (.z zm (.z BM (.z Je (.z gE (.zn zg (nB (nT (.mk ⟨rfl,ai,hs⟩ (hs:= .cons rfl (.cons rfl (.cons rfl (.da rfl ai (.nil rfl rfl)))))))))))))))))
 ·rintro fr w ⟨rfl,hle,hs⟩;exact nT (.af (.zn zg (.ret (Fin.bu results271 rfl ⟨true,rfl,⟨fun _=>hle,fun _=>rfl⟩,hs⟩))))
theorem lU{w:World}{v:Value}{s:dz}(hs:St H w σ)(hr:RSy H v s)(oS:RI H vw ws):ab8 222 [v,vw] w fun v w'=>v=I (eS s ws)∧St H w' σ:=by
 obtain ⟨vl,rfl,hr⟩:=hr;obtain ⟨al,cpl,rfl⟩:=RL.shape hr;obtain ⟨aw,cw,rfl⟩:=RI.shape oS;have aa0:=(RI.len oS).2.2;have hn:s.check=0→0≤s.many∧s.many≤64∧(s.n:Int)=s.many+1:=fun h=>by
  have h1:=s.dr.1 h;have:=h1.m0;have:=h1.m1;simp only [dz.n];omega
 refine Cl.o func222 ntmps222 ag2 ?_;refine .af (.bx hs fun b2 w hs=>?_);refine .zn zg (.seq (.af (.y hs (zls [_,_] bT aQ) (.o (.call call197 rfl (kR (s:=s) hs ⟨_,rfl,hr⟩) ?_)))));rintro _ w ⟨rfl,hs⟩;refine .zn zg (.af (.z zm (.zn fU (.dK rfl (fun om=>?_) (fun om=>?_)))))
 ·exact .af (.z zm (.zn zg (.ret (rT (Fin.bu results222 rfl ⟨by unfold eS;rw [if_pos om],hs.tail⟩)))))
 ·refine .skip (nT (.seq (.af (.z zm ?_))));obtain ⟨n0,n1,n2⟩:=hn om;refine .z (dk ae) (.z (zfa cz) (.y hs (zld aj) (.z cV (.z fU (.z zm (.F1 (t':=17) rfl (fun DP=>?_) (fun DP=>?_)))))))
  ·exact .Fs 3 6 false (.zn zpT (.cT (.af (.zn zg (.ret (rT (Fin.bu results222 rfl ⟨by unfold eS;rw [if_neg ai,if_neg ai],hs.tail⟩)))))))
  ·refine .T (.z zm (.T (.o (.call call271 rfl (wy hs oS) ?_))));rintro _ w ⟨bz,rfl,abA,hs⟩;refine .T (.z fE (.zn zpF (.cond rfl (fun jx=>?_) (fun jx=>?_))))
   ·exact .af (.zn zg (.ret (rT (Fin.bu results222 rfl ⟨by unfold eS;rw [if_neg ai,if_neg (fun h=>by rw [abA.2 h.2] at jx;cases jx)],hs.tail⟩))))
   ·exact .skip (nT (.af (.zn zg (.ret (Fin.bu results222 rfl ⟨by unfold eS;rw [if_neg ai,if_pos ⟨ai,abA.1 (by simpa using jx)⟩],hs.tail⟩)))))
theorem m9{w:World}{v:Value}{s:dz}(hs:St H w σ)(hr:RSy H v s)(oS:RI H vw ws):
  ab8 179 [v,vw] w fun v w'=>∃H1 e pf,HLe H H1∧v= .tuple #[pf,I e]∧Nf s ws e∧St H1 w' σ∧(e≠0→pf= .pointer none)∧
   (e=0→∃bf bt bl cl ts lf vl sp,pf=Pt bf∧Br H1 bf s ts lf vl bt bl cl sp∧sJ s.n s.dL (pZ ws s.n) ts∧s.Ok∧bU ws s.n≤FF):=by
 obtain ⟨vl,rfl,hr⟩:=hr;refine Cl.o func179 ntmps179 ag2 ?_;refine .af (.bx hs fun b2 w hs=>?_);refine .z zg (.zn zg (.seq (.af (.y hs (zls [_,_] bT aQ) (.z zm (.o (.call call222 rfl (lU (s:=s) hs ⟨_,rfl,hr⟩ oS) ?_)))))));rintro _ w ⟨rfl,hs⟩;refine .zn zg (.af (.z zm (.zn fU (.dK rfl (fun iq=>?_) (fun iq=>?_)))))
 ·exact .af (.z zm (.z zg (.zn zg (.ret (rT (Fin.iz results179 rfl rfl ⟨H,_,_,HLe.refl _,rfl,.bad iq,hs.tail,fun _=>rfl,fun h=>(iq h).elim⟩))))))
 ·refine .skip (nT (.seq (.af (.y hs (zls [_,_] bT aQ) ?_))));obtain ⟨aU,BC,ur⟩:=lW iq;refine .o (.call call223 rfl (lT (s:=s) hs aU ⟨_,rfl,hr⟩) ?_);rintro _ w ⟨H1,b,az,rfl,hb,hs⟩;refine .zn fE (.cond rfl (fun i7=>?_) (fun i7=>?_))
  ·exact .af (.z zg (.zn zg (.ret (rT (Fin.iz results179 rfl rfl ⟨H1,_,_,az,rfl,.clash iq (fun h=>by rw [hb.2 h] at i7;cases i7),hs.tail,fun _=>rfl,fun h=>by cases h⟩)))))
  ·refine .skip (nT (.af (.y hs (zls [_,_] bT aQ) (.z zm ?_))));have LG:s.Sound:=hb.1 (by simpa using i7);refine .o (.call call224 rfl (Bh (s:=s) hs aU ⟨_,rfl,hr.mono az⟩ (oS.mono az) BC ur LG) ?_);rintro v21 w jk;obtain ⟨pf,bb,H2,bp,rfl,hs,hT,hF⟩:∃pf bb H2,HLe H1 H2∧v21= .tuple #[pf,.bool bb]∧St H2 w (.blk b2 [I s.many,vl]::σ)∧(bb=false→pf= .pointer none∧pU s.dL (pZ ws s.n) s.n)∧
     (bb=true→∃bf bt bl cl ts lf vl sp,pf=Pt bf∧Br H2 bf s ts lf vl bt bl cl sp∧sJ s.n s.dL (pZ ws s.n) ts):=by
    rcases jk with ⟨rfl,h1,h2⟩|⟨H2,bf,bt,bl,cl,ts,lf,vl,sp,h1,rfl,h2,h3,h4⟩
    ·exact ⟨_,false,H1,HLe.refl _,rfl,h2,fun _=>⟨rfl,h1⟩,fun h=>by cases h⟩
    ·exact ⟨_,true,H2,h1,rfl,h4,fun h=>(by cases h),fun _=>⟨bf,bt,bl,cl,ts,lf,vl,sp,rfl,h2,h3⟩⟩
   refine .z zm (.z zex (.z zex (.z zg (.zn zg (.seq (.af (.z zm (.zn fE (.cond rfl (fun gv=>?_) (fun gv=>?_))))))))))
   ·exact .af (.z zg (.zn zg (.ret (rT (Fin.iz results179 rfl rfl ⟨H2,_,_,az.trans bp,rfl,.opn iq LG (hT (by simpa using gv)).2,hs.tail,fun _=>rfl,fun h=>by cases h⟩)))))
   ·refine .skip (nT (.af (.z zm (.z zg (.zn zg (.ret (Fin.iz results179 rfl rfl ?_)))))));obtain ⟨bf,bt,bl,cl,ts,lf,vl,sp,rfl,h2,h3⟩:=hF (by simpa using gv);have Wq:0<s.n:=by simp [dz.n]
    have ze:s.n≤65:=by have:=aU.m0;have:=aU.m1;simp only [dz.n];omega
    have T8:bU ws s.n≤FF:=by unfold jT at ur;rwa [BC] at ur
    exact ⟨H2,_,_,az.trans bp,rfl,.ok iq LG (h3.value Wq ze aU.dL T8).2.1,hs.tail,fun h=>(h rfl).elim,fun _=>⟨bf,bt,bl,cl,ts,lf,vl,sp,rfl,h2,h3,aU,T8⟩⟩
theorem kd{w:World}{s:dz}(hs:St H w σ)(aU:s.Ok)(hF:Br H bf s ts lf vl bt bl cl sp)(JV:sJ s.n s.dL (pZ ws s.n) ts)(ur:bU ws s.n≤FF):
  ab8 263 [Pt bf] w fun v w'=>v=I (dot s.dL ts (·.c))∧Er s.dL (s.wt ws) s.n (dot s.dL ts (·.c))∧dot s.dL ts (·.c)≤BB∧-BB≤dot s.dL ts (·.c)∧St H w' σ:=by
 obtain ⟨abT,WK,hFt,hFd⟩:=hF;obtain ⟨al,cpl,rfl⟩:=RL.shape WK;have OE:=aU.len;have Hf:s.dL.length=s.dt.length:=by simp [dz.dL,fo]
 have fD:=JV.lt;have Wq:0<s.n:=by simp [dz.n]
 have ze:s.n≤65:=by have:=aU.m0;have:=aU.m1;simp only [dz.n];omega
 have hv:=JV.value Wq ze aU.dL ur;have hd:=MR (es:=s.dL) fD;have hf1:cellAt H bf 1=some (.slice al s.dt.length cpl):=abT.at 1;have aa9:cellAt H bf 2=some (.slice (some ⟨bt,0,none⟩) ts.length ts.length):=abT.at 2;refine Cl.o func263 ntmps263 ag1 ?_;refine .af (.zn zg (.af (.zn zg (.seq (.af (.z zm (.z znc (.z (zfa jo) (.z (zfa cn) (.y hs (zld fc) (.z (dk bj) (.zn zm (.for (N:=s.dt.length) (J:=fun k fr w=>fr=[(10,.slice al s.dt.length cpl),(3,I (IntKind.i64.wrap (JZ s.dL ts k))),(0,Pt bf)]∧St H w σ) ai ?_ ?_ ?_)))))))))))))
 ·exact .mk ⟨rfl,hs⟩ (hs:= .cons rfl (.cons rfl (.cons rfl (.da rfl (by simp [JZ,a8,pH]) (.cons rfl (.nil rfl rfl))))))
 ·rintro k fr w hk ⟨rfl,hs⟩;obtain ⟨l,hl⟩:=nth hk;have hg:(ga s.dL k).c=l.M:=by simp [ga,dz.dL,mi hl,Lim.arc]
  have S0:=aU.lim l (List.mem_of_getElem? hl);have S2:k<ts.length:=by omega
  have SU:=JV.nn k ai;have Ww:cellAt H bt k=some (I (gi ts k)):=hFt.at k (gd S2);have hmul:gi ts k*l.M≤72000000000000000∧-72000000000000000≤gi ts k*l.M:=by
   simp only [FF] at SU;have g1:gi ts k*l.M≤gi ts k*20000:=Int.mul_le_mul_of_nonneg_left S0.2.2.2.1.2 SU.1;have g2:gi ts k*(-20000)≤gi ts k*l.M:=Int.mul_le_mul_of_nonneg_left S0.2.2.2.1.1 SU.1;omega
  refine .block (.af (.z zm (.ixX hs WK rfl rfl bj cD hl rfl ?_)));intro Gq o15 fq;refine .q hs (cj (vs:=l.c) rfl kT cD fq) (.o (.alloc hs gz rfl fun b5 w hs=>?_));refine .z zg (.o (.aJ (vs:=l.c) hs rfl rfl cD fun w hs=>?_));refine .nil (.draw mix rfl hs fun w hs=>?_);refine .zw 0 rfl zm ?_;refine .z 1 rfl zm ?_;refine .z 2 rfl znc ?_;refine .z 3 rfl (zfa jn) ?_;refine .y 4 rfl hs an ?_;refine .z 5 rfl zm ?_;refine .zw 6 rfl (eH (k:=k) rfl rfl ae ak rfl S2) (.r (i:=7) hs rfl aD .none (aF rfl aj Ww) ?_);refine .zw 8 rfl (zfa fN) ?_;refine .y 9 rfl hs aj ?_;refine .z 10 rfl la ?_;refine .zw 11 rfl (Jp rfl rfl) (.zw 12 rfl zg ?_);refine .D hs ?_;exact nB (nT (.mk ⟨rfl,hs.tail⟩ (hs:= .cons rfl (.cons rfl (.cons rfl (.da rfl (by rw [uo];simp only [JZ,a8,hg]) (.cons rfl (.nil rfl rfl))))))))
 ·rintro fr w ⟨rfl,hs⟩;rw [←Hf,←hd,lI (by have:=hv.2.2;simp only [BB] at this;omega)];exact nT (.af (.z zm (.zn zg (.ret (Fin.bu results263 rfl ⟨rfl,hv.1,hv.2.2.1,hv.2.2.2,hs⟩)))))
theorem yb{w:World}(hs:St H w σ)(oS:RI H vw ws)(aa0:ws.length≤1000000)(hb:∀k,-9223372036854775807≤gi ws k∧gi ws k≤9223372036854775807):
  ab8 262 [vw] w fun v w'=>∃H1,HLe H H1∧RI H1 v (vK ws)∧St H1 w' σ:=by
 obtain ⟨aw,cw,rfl⟩:=RI.shape oS;refine Cl.o func262 ntmps262 ag1 ?_;refine .af (.zn zg (.af (.z zm (.z (dk ae) (.o (.vO ws.length hs rfl rfl ae jK rfl ak dA ai fun b8 w hs=>?_))))));refine .zn zg (.seq (.af (.z zm (.z (dk ae) (.zn zm (.for (N:=ws.length) (J:=fun k fr w=>fr=[(9,.slice aw ws.length cw),(3,.slice (some ⟨b8,0,none⟩) ws.length ws.length)]∧∃L,(L.length=ws.length∧∀v<ws.length,gi L v=if v<k then -gi ws v else 0)∧St H w (.blk b8 (Is L)::σ)) ai ?_ ?_ ?_))))))
 ·exact .mk ⟨rfl,_,⟨bK,fun v hv=>by rw [eK _ _ hv,if_neg ai]⟩,hs⟩
 ·rintro k fr w hk ⟨rfl,L,⟨WJ,Vj⟩,hs⟩;have hx:=bG hk;have Mi:=hb k;refine .block (.af (.z zm ?_));first|(refine .ixv hs ae ak ?_;intro sF o14 kE)|refine .z (zix ae ak) ?_
  refine .y hs (zld aj) (.z zg (.zn zg (.region (.z zm (.z zm (.z zm (.z BM ?_)))))));first|(refine .ixv hs ae ak ?_;intro BE o20 mU)|refine .z (zix ae ak) ?_
  refine .o (.store hs rfl rfl ak fun w hs=>?_);refine .nil (nB (nT (.mk ⟨rfl,_,⟨by rw [List.length_set];exact WJ,fun v hv=>?_⟩,hs⟩)));rw [fi ai];by_cases e:v=k
  ·subst e;rw [if_pos rfl,if_pos ai]
  ·rw [if_neg e,Vj v hv];congr 1;apply propext;omega
 ·rintro fr w ⟨rfl,L,⟨WJ,Vj⟩,hs⟩;obtain rfl:L=vK ws:=CM (by simp [WJ,vK]) (fun k hk=>by rw [Vj k ai,if_pos ai,MA]);refine nT (.af (.z zm (.zn zg (.ret (Fin.bu results262 rfl ?_)))));obtain ⟨H1,g1,g2,hs⟩:=hs.dn .here;refine ⟨H1,g1,?_,hs⟩;rw [←WJ];exact Row.RI (spare:=[]) (by simpa using g2) _ (Nat.le_refl _) ai
theorem zp{w:World}{v:Value}{s:dz}(hs:St H w σ)(hr:RSy H v s)(oS:RI H vw ws):
  ab8 219 [v,vw] w fun v w'=>∃H1 lo hi e,HLe H H1∧v= .tuple #[I lo,I hi,I e]∧i6 s ws lo hi e∧St H1 w' σ:=by
 obtain ⟨vl,rfl,hr⟩:=hr;refine Cl.o func219 ntmps219 ag2 ?_;refine .af (.bx hs fun b2 w hs=>?_);refine .z zg (.z zg (.zn zg (.af (.y hs (zls [_,_] bT aQ) (.z zm (.o (.call call179 rfl (m9 (s:=s) hs ⟨_,rfl,hr⟩ oS) ?_)))))));rintro _ w ⟨H1,e,pf,az,rfl,hA,hs,iY,heq⟩;refine .z zm (.z zex (.z zex (.z zg (.zn zg (.seq (.af (.z zm (.zn fU (.dK rfl (fun dY=>?_) (fun dY=>?_))))))))))
 ·exact .af (.z zm (.z zg (.z zg (.zn zg (.ret (rT (Fin.PJ results219 rfl rfl rfl ⟨H1,_,_,_,az,rfl,.first ⟨hA,fun _=>rfl,fun h=>(dY h).elim⟩ dY,hs.tail⟩)))))))
 ·refine .skip (nT (.seq (.draw mix rfl hs fun w hs=>?_)));refine .ys 0 rfl hs [_,_] bT aQ ?_;refine .z 1 rfl zm ?_;refine .E 2 hs ?_;subst dY;obtain ⟨bf,bt,bl,cl,ts,lf,xb,sp,rfl,hF,JV,aU,ur⟩:=heq rfl;have BC:=(lW hA.zero.1).2.1;have hbw:∀k,-9223372036854775807≤gi ws k∧gi ws k≤9223372036854775807:=fun k=>by
   simp only [FF] at ur;by_cases hk:k<s.n
   ·have:=kO ws hk;omega
   ·have:gi ws k=0:=by simp [gi,List.getElem?_eq_none (show ws.length≤k by omega)]
    omega
  refine .call call262 rfl (yb hs (oS.mono az) (by have:=aU.m1;simp only [dz.n] at BC;omega) hbw) ?_;rintro v21 w ⟨H2,bp,XR,hs⟩;refine .go (.E 3 hs ?_);refine .call call179 rfl (m9 (s:=s) hs ⟨_,rfl,hr.mono (az.trans bp)⟩ XR) ?_;rintro _ w ⟨H3,e2,pg,cZ,rfl,abX,hs,hne2,Yr⟩;refine .go (.zw 4 rfl zm ?_);refine .z 5 rfl zex ?_;refine .z 6 rfl zex ?_;refine .z 7 rfl zg ?_;refine .z 8 rfl zg ?_;refine .D hs ?_;refine .seq (.af (.z zm (.zn fU (.dK rfl (fun jm=>?_) (fun jm=>?_)))))
  ·refine .af (.z zm (.z zg (.z zg (.zn zg (.ret (rT (Fin.PJ results219 rfl rfl rfl ?_)))))));obtain ⟨q1,q2,q3,q4⟩:=JV.value (by simp [dz.n]) (by have:=aU.m0;have:=aU.m1;simp only [dz.n];omega) aU.dL ur;exact ⟨H3,_,_,_,az.trans (bp.trans cZ),rfl,.second ⟨hA,fun h=>(h rfl).elim,fun _=>⟨q1,q3,q4⟩⟩ ⟨abX,fun _=>rfl,fun h=>(jm h).elim⟩ jm,hs.tail⟩
  ·refine .skip (nT (.af (.z zm ?_)));subst jm;obtain ⟨bf2,bt2,bl2,cl2,ts2,lf2,vl2,sp2,rfl,hF2,Zv,hok2,Xz⟩:=Yr rfl;refine .o (.call call263 rfl (kd hs aU hF2 Zv Xz) ?_);rintro _ w ⟨rfl,a1,a2,a3,hs⟩;simp only [BB] at a2 a3;refine .z BM (.z zm (.o (.call call263 rfl (kd hs aU (hF.mono (bp.trans cZ)) JV ur) ?_)));rintro _ w ⟨rfl,c1,c2,c3,hs⟩;exact .z zg (.z zg (.zn zg (.ret (Fin.PJ results219 rfl rfl rfl ⟨H3,_,_,_,az.trans (bp.trans cZ),rfl,.ok ⟨hA,fun h=>(h rfl).elim,fun _=>⟨c1,c2,c3⟩⟩ ⟨abX,fun h=>(h rfl).elim,fun _=>⟨a1,by simp only [BB];omega,by simp only [BB];omega⟩⟩,hs.tail⟩))))
theorem sz{w:World}{s:dz}(hs:St H w σ)(aU:s.Ok)(hF:Br H bf s ts lf vl bt bl cl sp)(JV:sJ s.n s.dL (pZ ws s.n) ts)(ur:bU ws s.n≤FF):
  ab8 251 [Pt bf] w fun v w'=>∃H1,HLe H H1∧RPf H1 v (dot s.dL ts (·.c)) (gN ts ts.length)∧St H1 w' σ:=by
 have aa9:cellAt H bf 2=some (.slice (some ⟨bt,0,none⟩) ts.length ts.length):=hF.f.at 2;have fD:=JV.lt;have Hf:s.dL.length=s.dt.length:=by simp [dz.dL,fo]
 have OE:=aU.len;refine Cl.o func251 ntmps251 ag1 ?_;refine .af (.o (.alloc hs ju rfl fun b2 w hs=>?_));refine .nil (.af (.z zm (.o (.call call263 rfl (kd hs aU hF JV ur) ?_))));rintro _ w ⟨rfl,c1,c2,c3,hs⟩;refine .z (zbd [_,_] jC) (.o (.alloc hs ju rfl fun b3 w hs=>?_));refine .o (.aJ (vs:=[_,_]) hs rfl rfl bQ fun w hs=>?_);refine .nil (.seq (.af (.z zm (.z znc (.z (zfa jn) (.y hs (zld an) (.z (dk ae) (.zn zm (.for (N:=ts.length) (J:=fun k fr w=>fr=[(12,.slice (some ⟨bt,0,none⟩) ts.length ts.length),(3,Pt b3),(2,Pt b2)]∧∃vu en,dj 2 vu (Uses (gN ts k)) en∧St H w (.blk b3 [I (dot s.dL ts (·.c)),vu]:: .blk b2 [I 0,.slice none 0 0]::en::σ)) ai ?_ ?_ ?_)))))))))
 ·exact .mk ⟨rfl,_,.nul,.nil 2 none,(hs.nul).sb⟩
 ·rintro k fr w hk ⟨rfl,vu,en,hO,hs⟩;have Ww:cellAt H bt k=some (I (gi ts k)):=hF.t.at k (gd hk);refine .block (.af (.z zm ?_));first|(refine .ixv hs ae ak ?_;intro J2 o17 i7)|refine .z (zix ae ak) ?_
  refine .q hs (aF rfl aj Ww) (.z zg (.zn zg (.af (.z zm (.zn ld (.bA rfl (fun mU=>?_) (fun mU=>?_)))))))
  ·refine .region (.z (zfa ez) (.y hs (zld o9) (.z zm (.z zm (.z (zbd [_,_] Hs) (.o (.buildSlice (cells:=[I k,I (gi ts k)]) hs zu rfl rfl fun Tk w hs=>?_)))))));refine .o (.append (ys:=[I k,I (gi ts k)]) hs ij rfl rfl hO (.own .here rfl rfl) (by simp [Value.oneCell']) (fun l h=>by rw [Hu] at h;have:=p5 ts k;omega) ?_);intro v27 en27 w eG hs;obtain ⟨a27,l27,c27,rfl,h27⟩:=eG.shape;refine .z (zfa ez) (.o (.store hs rfl rfl sizeOf120 fun w hs=>?_));refine .nil (nB (nT ?_));have e:Uses (gN ts k)++[I k,I (gi ts k)]=Uses (gN ts (k+1)):=by rw [gN,if_pos mU,Hv];rfl
   rw [e] at eG;exact .mk ⟨rfl,_,_,eG,hs.sb⟩
  ·refine .skip (nB (nT ?_));have e:gN ts (k+1)=gN ts k:=by rw [gN,if_neg mU];simp
   exact .mk ⟨rfl,vu,en,by rw [e];exact hO,hs⟩
 ·rintro fr w ⟨rfl,vu,en,hO,hs⟩;obtain ⟨au,lu,cu,rfl,hlu⟩:=hO.shape;refine nT (.af (.y hs (zls [_,_] eF bQ) (.o (.aJ (vs:=[_,_]) hs rfl rfl bQ fun w hs=>?_))));refine .nil (.ret ?_);obtain ⟨H1,g1,g2,hs⟩:=dj.dn (cs:=(gN ts ts.length).map Use.c) hO (fun c hc=>by simp only [List.mem_map] at hc;obtain ⟨x,_,rfl⟩:=hc;rfl) ai (by rw [List.length_map];have:=p5 ts ts.length;omega) hs dC;exact Fin.iG [] [] hs fun w hs=>⟨_,results1 results251 (dm (vs:=[_,_]) hs rfl eF bQ),H1,g1,⟨_,rfl,g2⟩,hs.out⟩
theorem zq{w:World}{v:Value}{s:dz}(hs:St H w σ)(hr:RSy H v s)(oS:RI H vw ws):
  ab8 200 [v,vw] w fun v w'=>∃H1 vp n us e,HLe H H1∧v= .tuple #[vp,I e]∧ox s ws n e∧RPf H1 vp n us∧(e≠0→us=[])∧(e=0→s.Ok∧bU ws s.n≤FF∧∃ts,sJ s.n s.dL (pZ ws s.n) ts∧n=dot s.dL ts (·.c)∧us=gN ts ts.length)∧St H1 w' σ:=by
 obtain ⟨vl,rfl,hr⟩:=hr;refine Cl.o func200 ntmps200 ag2 ?_;refine .af (.bx hs fun b2 w hs=>?_);refine .o (.alloc hs ju rfl fun b4 w hs=>?_);refine .zn zg (.af (.y hs (zls [_,_] bT aQ) (.z zm (.o (.call call179 rfl (m9 (s:=s) hs ⟨_,rfl,hr⟩ oS) ?_)))));rintro _ w ⟨H1,e,pf,az,rfl,hA,hs,iY,heq⟩;refine .z zm (.z zex (.z zex (.z zg (.zn zg (.seq (.af (.z zm (.zn fU (.dK rfl (fun fq=>?_) (fun fq=>?_))))))))))
 ·refine .af (.z (zbd [_,_] jC) (.z zm (.o (.aJ (vs:=[_,_]) hs rfl rfl bQ fun w hs=>?_))));exact .zn zg (.ret (rT ((Fin.iG [] [] hs fun w hs=>⟨_,results2 results200 (dm (vs:=[_,_]) hs rfl eF bQ) rfl,H1,_,0,[],_,az,rfl,⟨hA,fun _=>rfl,fun h=>(fq h).elim⟩,⟨_,rfl,RS.nil H1 2 none 0⟩,fun _=>rfl,fun h=>(fq h).elim,hs.out⟩))))
 ·refine .skip (nT (.af (.z zm ?_)));subst fq;obtain ⟨bf,bt,bl,cl,ts,lf,vl,sp,rfl,hF,JV,aU,ur⟩:=heq rfl;refine .o (.call call251 rfl (sz hs aU hF JV ur) ?_);rintro _ w ⟨H2,bp,⟨vu,rfl,hU⟩,hs⟩;obtain ⟨au,cu,rfl⟩:=RU.shape hU;obtain ⟨q1,q2,q3,q4⟩:=JV.value (by simp [dz.n]) (by have:=aU.m0;have:=aU.m1;simp only [dz.n];omega) aU.dL ur;refine .o (.aJ (vs:=[_,_]) hs rfl rfl bQ fun w hs=>?_);exact .zn zg (.ret (Fin.iG [] [] hs fun w hs=>⟨_,results2 results200 (dm (vs:=[_,_]) hs rfl eF bQ) rfl,H2,_,_,_,_,az.trans bp,rfl,⟨hA,fun h=>(h rfl).elim,fun _=>⟨q1,q3,q4⟩⟩,⟨_,rfl,hU⟩,fun h=>(h rfl).elim,fun _=>⟨aU,ur,ts,JV,rfl,rfl⟩,hs.out⟩))
theorem NU{n:Int}(hm:0<m):(n.tmod m+m).tmod m=n%m:=by
 have h2:=Int.lt_tmod_of_pos n hm;rw [Int.tmod_eq_emod_of_nonneg ai,Int.tmod_def,show n - m*n.tdiv m+m=n+m*(1 - n.tdiv m) by rw [Int.mul_sub];omega,Int.add_mul_emod_self_left]
theorem AH{w:World}{v:Value}{l:List Int}{i n:Int}(hs:St H w σ)(hr:RI H v l)(hi:0≤i)(hn:n≤4611686018427387904):ab8 209 [v,I i,I n] w fun v w'=>v=I (vk l i n)∧St H w' σ:=by
 obtain ⟨a,c,rfl⟩:=RI.shape hr;have hlen:=(RI.len hr).2.2;refine Cl.o func209 ntmps209 ag3 ?_;refine .af (.zn zg (.seq (.af (.z zm (.z (dk ae) (.z fJ (.z zm (.ie (t':=10) rfl (fun pO=>?_) (fun pO=>?_)))))))))
 ·exact .Fs 2 3 false (.zn zpT (.cT (.af (.zn zg (.ret (rT (Fin.bu results209 rfl ⟨by rw [show vk l i n=0 by unfold vk;rw [if_pos (.inl (List.length_eq_zero_iff.1 ai))]],hs⟩)))))))
 ·refine .T (.z zm (.T (.z gV (.zn zpF (.bA rfl (fun iq=>?_) (fun iq=>?_))))))
  ·exact .af (.zn zg (.ret (rT (Fin.bu results209 rfl ⟨by rw [show vk l i n=0 by unfold vk;rw [if_pos (.inr ai)]],hs⟩))))
  ·refine .skip (nT (.af (.z zm (.z zm (.z zm (.z (dk ae) ?_))))));have Kl:0<l.length:=by omega
   have h1:=Int.tmod_nonneg (a:=i) (l.length:Int) hi;have h2:=Int.tmod_lt_of_pos i (b:=(l.length:Int)) ai;have hx:=bG (l:=l) (i:=(i.tmod (l.length:Int)).toNat) ai;have h3:=Int.tmod_lt_of_pos (gi l (i.tmod (l.length:Int)).toNat) (b:=n) ai;have h4:=Int.lt_tmod_of_pos (gi l (i.tmod (l.length:Int)).toNat) (b:=n) ai;have e:=NU (n:=gi l (i.tmod (l.length:Int)).toNat) (m:=n) ai;refine .z Gt (.ixY hs hr rfl rfl ae ak hx ai ?_);intro pX o19 lM;exact .q hs (aF rfl aj lM) (.z zm (.z Gt (.z zm (.z cV (.z zm (.z Gt (.zn zg (.ret (Fin.bu results209 rfl ⟨by unfold vk;rw [if_neg (fun h=>h.elim (fun h=>by rw [h] at Kl;exact Nat.lt_irrefl _ Kl) (fun h=>by omega)),←e],hs⟩)))))))))
def C2(i j:Nat):Int:=if i=j then 0 else free
theorem QG{n:Nat}(es:List Arc){T:Nat→Nat→Int}(h:∀i j,i<n→j<n→T i j=C2 i j):SE n es 0 T:=
 ⟨fun i hi=>by rw [h i i hi hi];simp [C2],fun _ _ h=>by omega,fun i j hi hj Kn=> .inl (by rw [h i j hi hj];simp [C2,Kn])⟩
set_option maxHeartbeats 4000000 in
theorem rL{w:World}{v:Value}{s:dz}(hs:St H w σ)(hr:RSy H v s)(aU:s.Ok):
  ab8 207 [v] w fun u w'=>∃H1 rs,HLe H H1∧RT H1 u rs∧Sq s.n rs∧kY s.n s.dL (gt rs)∧St H1 w' σ:=by
 obtain ⟨ul,rfl,hl⟩:=hr;obtain ⟨al,cl,rfl⟩:=RL.shape hl;have Eh:=aU.m0;have JH:=aU.m1;have hlen:=aU.len;have Wp:=s.AO;have xG:=aU.n65;have Fk:=aU.inn;have P0:s.many+1=(s.n:Int):=by simp only [dz.n];omega
 generalize hn:s.n=n at Wp xG Fk P0 ⊢;refine Cl.o func207 ntmps207 ag1 ?_;refine .af (.bx hs fun b1 w hs=>?_);refine .zn zg (.af (.z (zfa cz) ?_));first|refine .q hs (eQ rfl aj (hm:=by repeat (first|exact .here|assumption|exact Mem.row ai ai|refine .there ?_|refine Mem.l6 ?_)) (hv:=by first|rfl|exact dJ ai|exact iO dv ai ai|exact gd gM)) ?_|refine .q hs (aF rfl aj dv) ?_
 refine .z cV ?_;rw [P0];refine .zn zg (.af (.z zm (.o (.Q6 n hs rfl rfl aC typeInfo34 rfl aO ir ai fun nD w hs=>?_))));refine .zn zg (.seq (.af (.z zm (.z (dk aC) (.zn zm (.for (N:=n) (J:=fun k fr w=>fr=[(3,I (n:Int)),(4,.slice (some ⟨nD,0,none⟩) n n),(1,Pt b1)]∧∃bs:List Nat,bs.length=k∧St H w (.blk nD (bs.map (ptr n)++List.replicate (n - k) (.slice none 0 0))::(lA bs (Gy C2 n k)++(.blk b1 [I s.many,.slice al s.dt.length cl]::σ)))) ai ?_ ?_ ?_))))))
 ·exact .mk ⟨rfl,[],rfl,hs⟩
 ·rintro k fr w hk ⟨rfl,bs,B7,hs⟩;refine .block (.af (.z zm (.zn zg (.af (.z zm (.z zm (.z zm (.o (.vO n hs rfl rfl ae jK rfl ak dA ai fun F3 w hs=>?_)))))))));first|(refine .ixw hs aC aO ?_;intro Tk o26 jm)|refine .z (zix aC aO) ?_
  refine .o (.store hs rfl rfl aO ?_ dC (by simp [B7];omega) (K5 B7 hk));intro w hs;refine .nil (.af (.z zm (.z zm ?_)));first|(refine .ixw hs aC aO ?_;intro ab5 o29 nR)|refine .z (zix aC aO) ?_
  refine .q hs (eQ rfl an (hv:=Ii B7)) (.z (dk ae) (.zn zm (.for (N:=n) (J:=fun j fr w=>fr=[(5,I (k:Int)),(19,I (k:Int)),(18,I (n:Int)),(3,I (n:Int)),(4,.slice (some ⟨nD,0,none⟩) n n),(1,Pt b1)]∧St H w (.blk F3 (Is ((List.range n).map fun c=>if c<j∧k≠c then free else 0)):: .blk nD ((bs++[F3]).map (ptr n)++List.replicate (n - (k+1)) (.slice none 0 0))::(lA bs (Gy C2 n k)++(.blk b1 [I s.many,.slice al s.dt.length cl]::σ)))) ai ?_ ?_ ?_)))
  ·rw [AJ (fun c=>if c<0∧k≠c then free else 0) n 0 (fun j _=>by simp)] at hs;exact .mk ⟨rfl,hs⟩
  ·rintro j fr w hj ⟨rfl,hs⟩;refine .block (.af (.z zm (.zn zg (.af (.z zm (.z zm (.zn fU (.dK rfl (fun pL=>?_) (fun pL=>?_)))))))))
   ·refine .region (.z zm (.z zm ?_));first|(refine .ixw hs aC aO ?_;intro VJ o40 pK)|refine .z (zix aC aO) ?_
    refine .q hs (eQ rfl an (hv:=Ii B7)) (.z zm ?_);first|(refine .ixv hs ae ak ?_;intro WR o43 B5)|refine .z (zix ae ak) ?_
    refine .o (.store hs rfl rfl ak ?_ dC (Bk (by simp;omega)) (wN _ _ _));intro w hs;refine .nil (nB (nT ?_));rw [KT _ (fun c=>if c<j+1∧k≠c then free else 0) hj 1000000000 (fun c _=>by
     by_cases e:c=j
     ·subst e;rw [if_pos rfl,if_pos ⟨ai,ai⟩]
     ·rw [if_neg e];congr 1;apply propext;omega)] at hs
    exact .mk ⟨rfl,hs⟩
   ·refine .skip (nB (nT ?_));rw [AK (g:=fun c=>if c<j+1∧k≠c then free else 0) (fun c _=>by
     by_cases e:c=j
     ·subst e;rw [if_neg ai,if_neg ai]
     ·congr 1;apply propext;omega)] at hs
    exact .mk ⟨rfl,hs⟩
  ·rintro fr w ⟨rfl,hs⟩;rw [AK (g:=C2 k) (fun c hc=>by
    unfold C2;by_cases e:k=c
    ·rw [if_neg ai,if_pos e]
    ·rw [if_pos ⟨hc,e⟩,if_neg e])] at hs
   replace hs:=hs.Ty (by rw [B7,Aj]);rw [←EK] at hs;exact nB (nT (.mk ⟨rfl,bs++[F3],by simp [B7],hs⟩))
 ·rintro fr w ⟨rfl,bs,B7,hs⟩;rw [Nat.sub_self,List.replicate_zero,List.append_nil] at hs;refine nT (.seq (.af (.z (zfa cn) ?_)));first|refine .q hs (eQ rfl fc (hm:=by repeat (first|exact .here|assumption|exact Mem.row ai ai|refine .there ?_|refine Mem.l6 ?_)) (hv:=by first|rfl|exact dJ ai|exact iO dv ai ai|exact gd gM)) ?_|refine .q hs (aF rfl fc dv) ?_
  refine .z (dk bj) (.zn zm (.for (N:=s.dt.length) (J:=fun k fr w=>fr=[(47,.slice al s.dt.length cl),(4,.slice (some ⟨nD,0,none⟩) n n)]∧∃rs,Sq n rs∧SE n s.dL k (gt rs)∧St H w (.blk nD (bs.map (ptr n))::(lA bs rs++(.blk b1 [I s.many,.slice al s.dt.length cl]::σ)))) ai ?_ ?_ ?_))
  ·exact .mk ⟨rfl,_,KD C2 n,QG s.dL (fun i j hi hj=>Gx C2 hi hj),hs⟩
  ·rintro k fr w hk ⟨rfl,rs,hq,hB,hs⟩;obtain ⟨x,hx⟩:=nth (l:=s.dt) hk;have Ff:=hq.1;obtain ⟨⟨xa0,xa1⟩,⟨xb0,xb1⟩,xne,xM,-⟩:=aU.lim x (List.mem_of_getElem? hx);have ha:x.A.toNat<n:=by omega
   have hb:x.B.toNat<n:=by omega
   have hga:=mi hx;refine .block (.af (.ixX (enc:=Lim.c) hs hl rfl rfl bj cD hx rfl ?_));intro b51 o51 B3;refine .q hs (cj (vs:=x.c) rfl kT cD B3) (.o (.alloc hs gz rfl fun b8 w hs=>?_));refine .o (.aJ (vs:=x.c) hs rfl rfl cD fun w hs=>?_);refine .nil (.draw mix rfl hs fun w hs=>?_);refine .zw 0 rfl zm ?_;refine .z 1 rfl (zfa eN) ?_;first|refine .load (i:=2) hs rfl aD .none rfl aj ?_ (by repeat (first|exact .here|assumption|exact Mem.row ai ai|refine .there ?_|refine Mem.l6 ?_)) (by first|rfl|exact dJ ai|exact iO dv ai ai|exact gd gM)|refine .r (i:=2) hs rfl aD .none (aF rfl aj dv) ?_
   refine .zw 3 rfl (eH (k:=x.A.toNat) rfl rfl aC aO ai ha) ?_;first|refine .load (i:=4) hs rfl aD .none rfl an ?_ (by repeat (first|exact .here|assumption|exact Mem.row ai ai|refine .there ?_|refine Mem.l6 ?_)) (by first|rfl|exact dJ ai|exact iO dv ai ai|exact gd gM)|refine .r (i:=4) hs rfl aD .none (aF rfl an dv) ?_
   refine .zw 5 rfl (zfa eZ) ?_;first|refine .load (i:=6) hs rfl aD .none rfl aj ?_ (by repeat (first|exact .here|assumption|exact Mem.row ai ai|refine .there ?_|refine Mem.l6 ?_)) (by first|rfl|exact dJ ai|exact iO dv ai ai|exact gd gM)|refine .r (i:=6) hs rfl aD .none (aF rfl aj dv) ?_
   refine .zw 7 rfl zm ?_;refine .z 8 rfl (zfa eN) ?_;first|refine .load (i:=9) hs rfl aD .none rfl aj ?_ (by repeat (first|exact .here|assumption|exact Mem.row ai ai|refine .there ?_|refine Mem.l6 ?_)) (by first|rfl|exact dJ ai|exact iO dv ai ai|exact gd gM)|refine .r (i:=9) hs rfl aD .none (aF rfl aj dv) ?_
   refine .zw 10 rfl (eH (k:=x.A.toNat) rfl rfl aC aO ai ha) ?_;first|refine .load (i:=11) hs rfl aD .none rfl an ?_ (by repeat (first|exact .here|assumption|exact Mem.row ai ai|refine .there ?_|refine Mem.l6 ?_)) (by first|rfl|exact dJ ai|exact iO dv ai ai|exact gd gM)|refine .r (i:=11) hs rfl aD .none (aF rfl an dv) ?_
   refine .zw 12 rfl (zfa eZ) ?_;first|refine .load (i:=13) hs rfl aD .none rfl aj ?_ (by repeat (first|exact .here|assumption|exact Mem.row ai ai|refine .there ?_|refine Mem.l6 ?_)) (by first|rfl|exact dJ ai|exact iO dv ai ai|exact gd gM)|refine .r (i:=13) hs rfl aD .none (aF rfl aj dv) ?_
   refine .zw 14 rfl (eH (k:=x.B.toNat) rfl rfl ae ak ai hb) ?_;first|refine .load (i:=15) hs rfl aD .none rfl aj ?_ (by repeat (first|exact .here|assumption|exact Mem.row ai ai|refine .there ?_|refine Mem.l6 ?_)) (by first|rfl|exact dJ ai|exact iO dv ai ai|exact gd gM)|refine .r (i:=15) hs rfl aD .none (aF rfl aj dv) ?_
   refine .zw 16 rfl (zfa fN) ?_;first|refine .load (i:=17) hs rfl aD .none rfl aj ?_ (by repeat (first|exact .here|assumption|exact Mem.row ai ai|refine .there ?_|refine Mem.l6 ?_)) (by first|rfl|exact dJ ai|exact iO dv ai ai|exact gd gM)|refine .r (i:=17) hs rfl aD .none (aF rfl aj dv) ?_
   refine .zw 18 rfl EE (.zw 19 rfl (eH (k:=x.B.toNat) rfl rfl ae ak ai hb) (.ET 20 hs ?_));refine .store hs rfl rfl ak ?_ (.there (.there (Upd.row _ ai ai))) (Bk (by rw [hq.2 _ ha];exact hb)) (wN _ _ _);intro w hs;exact .go (.DT hs (nB (nT (.mk ⟨rfl,_,hq.set ha _,by rw [IJ hq ha hb];exact hB.step Fk hga,hs.tail⟩))))
  ·rintro fr w ⟨rfl,rs,hq,hB,hs⟩;rw [←fo] at hB;have hI:=hB.go Fk Wp;have G2:∀x∈s.dL,-20000≤x.c∧x.c≤20000:=fun x hx=>by have:=Fk x hx;omega
   refine nT (.seq (.af (.z zm (.z (dk aC) (.zn zm (.for (N:=n) (J:=fun m fr w=>fr=[(4,.slice (some ⟨nD,0,none⟩) n n)]∧∃rs,Sq n rs∧(m<n→Eo n s.dL m (fun _ _=>False) (gt rs))∧(m=n→kY n s.dL (gt rs))∧St H w (.blk nD (bs.map (ptr n))::(lA bs rs++(.blk b1 [I s.many,.slice al s.dt.length cl]::σ)))) ai ?_ ?_ ?_))))))
   ·exact .mk ⟨rfl,rs,hq,fun _=>hI,fun e=>by omega,hs⟩
   ·clear hI hB hq;rintro m fr w hm ⟨rfl,rs,hq,hI,-,hs⟩;replace hI:=hI hm;refine .block (.af (.z zm (.zn zg (.af (.z zm (.z (dk aC) (.zn zm (.for (N:=n) (J:=fun i fr w=>fr=[(9,I (m:Int)),(76,I (m:Int)),(75,I (n:Int)),(4,.slice (some ⟨nD,0,none⟩) n n)]∧∃rs,Sq n rs∧Eo n s.dL m (fun a _=>a<i) (gt rs)∧St H w (.blk nD (bs.map (ptr n))::(lA bs rs++(.blk b1 [I s.many,.slice al s.dt.length cl]::σ)))) ai ?_ ?_ ?_))))))))
    ·exact .mk ⟨rfl,rs,hq,hI.skip G2 hm (P:=fun _ _=>False) (fun i j h=>by omega) (fun _ _ _ _ h=>h.elim),hs⟩
    ·clear hI hq;rintro i fr w hi ⟨rfl,rs,hq,hI,hs⟩;refine .block (.af (.z zm (.zn zg (.af (.z zm (.z (dk aC) (.zn zm (.for (N:=n) (J:=fun k fr w=>fr=[(10,I (i:Int)),(81,I (i:Int)),(80,I (n:Int)),(9,I (m:Int)),(76,I (m:Int)),(75,I (n:Int)),(4,.slice (some ⟨nD,0,none⟩) n n)]∧∃rs,Sq n rs∧Eo n s.dL m (fun a b=>a<i∨(a=i∧b<k)) (gt rs)∧St H w (.blk nD (bs.map (ptr n))::(lA bs rs++(.blk b1 [I s.many,.slice al s.dt.length cl]::σ)))) ai ?_ ?_ ?_))))))))
     ·exact .mk ⟨rfl,rs,hq,hI.skip G2 hm (P:=fun _ _=>False) (fun a b h=>by omega) (fun _ _ _ _ h=>h.elim),hs⟩
     ·clear hI hq;rintro k fr w hk ⟨rfl,rs,hq,hI,hs⟩;have Ff:=hq.1;have c1:=hI.cl i m hi hm;have c2:=hI.cl m k hm hk;have u1:=hI.up i m hi hm;have u2:=hI.up m k hm hk;refine .block (.af (.z zm (.zn zg (.af (.z zm (.z zm ?_))))));first|(refine .ixw hs aC aO ?_;intro abZ o91 G4)|refine .z (zix aC aO) ?_
      first|refine .q hs (eQ rfl an (hm:=by repeat (first|exact .here|assumption|exact Mem.row ai ai|refine .there ?_|refine Mem.l6 ?_)) (hv:=by first|rfl|exact dJ ai|exact iO dv ai ai|exact gd gM)) ?_|refine .q hs (aF rfl an dv) ?_
      refine .z zm ?_;first|(refine .ixv hs ae ak ?_;intro b94 o94 hc94)|refine .z (zix ae ak) ?_
      first|refine .q hs (eQ rfl aj (hm:=by repeat (first|exact .here|assumption|exact Mem.row ai ai|refine .there ?_|refine Mem.l6 ?_)) (hv:=by first|rfl|exact dJ ai|exact iO dv ai ai|exact gd gM)) ?_|refine .q hs (aF rfl aj dv) ?_
      refine .z fU (.z zm (.F1 (t':=97) rfl (fun wc=>?_) (fun wc=>?_)))
      ·refine .T (.z zm (.T (.z zm (.T ?_))));first|(refine .ixw hs aC aO ?_;intro SB o100 nU)|refine .z (zix aC aO) ?_
       refine .T ?_;first|refine .q hs (eQ rfl an (hm:=by repeat (first|exact .here|assumption|exact Mem.row ai ai|refine .there ?_|refine Mem.l6 ?_)) (hv:=by first|rfl|exact dJ ai|exact iO dv ai ai|exact gd gM)) ?_|refine .q hs (aF rfl an dv) ?_
       refine .T (.z zm (.T ?_));first|(refine .ixv hs ae ak ?_;intro Z5 o103 Fz)|refine .z (zix ae ak) ?_
       refine .T ?_;first|refine .q hs (eQ rfl aj (hm:=by repeat (first|exact .here|assumption|exact Mem.row ai ai|refine .there ?_|refine Mem.l6 ?_)) (hv:=by first|rfl|exact dJ ai|exact iO dv ai ai|exact gd gM)) ?_|refine .q hs (aF rfl aj dv) ?_
       refine .T (.z fU (.zn zpT (.dK rfl (fun tF=>?_) (fun tF=>?_))))
       ·refine .draw mix rfl hs fun w hs=>?_
        replace u1:=u1 wc;replace u2:=u2 tF;refine .zw 0 rfl zm ?_;refine .z 1 rfl zm ?_;first|(refine .ixw 2 rfl hs aC aO ?_;intro Z3 o109 Fy)|refine .z 2 rfl (zix aC aO) ?_
        first|refine .load (i:=3) hs rfl aD .none rfl an ?_ (by repeat (first|exact .here|assumption|exact Mem.row ai ai|refine .there ?_|refine Mem.l6 ?_)) (by first|rfl|exact dJ ai|exact iO dv ai ai|exact gd gM)|refine .r (i:=3) hs rfl aD .none (aF rfl an dv) ?_
        refine .zw 4 rfl zm ?_;refine .z 5 rfl zm ?_;refine .z 6 rfl zm ?_;first|(refine .ixw 7 rfl hs aC aO ?_;intro ZZ o114 Mg)|refine .z 7 rfl (zix aC aO) ?_
        first|refine .load (i:=8) hs rfl aD .none rfl an ?_ (by repeat (first|exact .here|assumption|exact Mem.row ai ai|refine .there ?_|refine Mem.l6 ?_)) (by first|rfl|exact dJ ai|exact iO dv ai ai|exact gd gM)|refine .r (i:=8) hs rfl aD .none (aF rfl an dv) ?_
        refine .zw 9 rfl zm ?_;first|(refine .ixv 10 rfl hs ae ak ?_;intro ZY o117 CG)|refine .z 10 rfl (zix ae ak) ?_
        first|refine .load (i:=11) hs rfl aD .none rfl aj ?_ (by repeat (first|exact .here|assumption|exact Mem.row ai ai|refine .there ?_|refine Mem.l6 ?_)) (by first|rfl|exact dJ ai|exact iO dv ai ai|exact gd gM)|refine .r (i:=11) hs rfl aD .none (aF rfl aj dv) ?_
        refine .zw 12 rfl zm ?_;refine .z 13 rfl zm ?_;first|(refine .ixw 14 rfl hs aC aO ?_;intro b121 o121 abx)|refine .z 14 rfl (zix aC aO) ?_
        first|refine .load (i:=15) hs rfl aD .none rfl an ?_ (by repeat (first|exact .here|assumption|exact Mem.row ai ai|refine .there ?_|refine Mem.l6 ?_)) (by first|rfl|exact dJ ai|exact iO dv ai ai|exact gd gM)|refine .r (i:=15) hs rfl aD .none (aF rfl an dv) ?_
        refine .zw 16 rfl zm ?_;first|(refine .ixv 17 rfl hs ae ak ?_;intro VN o124 Me)|refine .z 17 rfl (zix ae ak) ?_
        first|refine .load (i:=18) hs rfl aD .none rfl aj ?_ (by repeat (first|exact .here|assumption|exact Mem.row ai ai|refine .there ?_|refine Mem.l6 ?_)) (by first|rfl|exact dJ ai|exact iO dv ai ai|exact gd gM)|refine .r (i:=18) hs rfl aD .none (aF rfl aj dv) ?_
        refine .zw 19 rfl zm ?_;refine .z 20 rfl zm ?_;first|(refine .ixw 21 rfl hs aC aO ?_;intro ZV o128 UQ)|refine .z 21 rfl (zix aC aO) ?_
        first|refine .load (i:=22) hs rfl aD .none rfl an ?_ (by repeat (first|exact .here|assumption|exact Mem.row ai ai|refine .there ?_|refine Mem.l6 ?_)) (by first|rfl|exact dJ ai|exact iO dv ai ai|exact gd gM)|refine .r (i:=22) hs rfl aD .none (aF rfl an dv) ?_
        refine .zw 23 rfl zm ?_;first|(refine .ixv 24 rfl hs ae ak ?_;intro b131 o131 abu)|refine .z 24 rfl (zix ae ak) ?_
        first|refine .load (i:=25) hs rfl aD .none rfl aj ?_ (by repeat (first|exact .here|assumption|exact Mem.row ai ai|refine .there ?_|refine Mem.l6 ?_)) (by first|rfl|exact dJ ai|exact iO dv ai ai|exact gd gM)|refine .r (i:=25) hs rfl aD .none (aF rfl aj dv) ?_
        refine .zw 26 rfl cV ?_;refine .z 27 rfl EE ?_;refine .z 28 rfl Je ?_;first|(refine .ixv 29 rfl hs ae ak ?_;intro ZT o136 Qe)|refine .z 29 rfl (zix ae ak) ?_
        refine .ET 30 hs ?_;refine .store hs rfl rfl ak ?_ (.there (Upd.row _ ai ai)) (Bk (by rw [hq.2 _ hi];exact hk)) (wN _ _ _);intro w hs;exact .go (.DT hs (nB (nT (.mk ⟨rfl,_,hq.set hi _,by rw [IJ hq hi hk];exact hI.step G2 hm hi hk (fun a b h=>by omega) wc tF,hs⟩))))
       ·exact .skip (nB (nT (.mk ⟨rfl,rs,hq,hI.skip G2 hm (P:=fun a b=>a=i∧b=k) (fun a b h=>by omega) (fun a b _ _ h=>by obtain ⟨rfl,rfl⟩:=h;exact .inr tF),hs⟩)))
      ·exact .Fs 8 8 true (.zn zpF (.cF (.skip (nB (nT (.mk ⟨rfl,rs,hq,hI.skip G2 hm (P:=fun a b=>a=i∧b=k) (fun a b h=>by omega) (fun a b _ _ h=>by obtain ⟨rfl,rfl⟩:=h;exact .inl wc),hs⟩))))))
     ·rintro fr w ⟨rfl,rs,hq,hI,hs⟩;exact nB (nT (.mk ⟨rfl,rs,hq,hI.skip G2 hm (P:=fun a b=>a=i∧n≤b) (fun a b h=>by omega) (fun a b _ hb h=>by omega),hs⟩))
    ·rintro fr w ⟨rfl,rs,hq,hI,hs⟩;replace hI:Eo n s.dL m (fun _ _=>True) (gt rs):=hI.skip G2 hm (P:=fun a _=>n≤a) (fun a b h=>by omega) (fun a b ha _ h=>by omega);exact nB (nT (.mk ⟨rfl,rs,hq,fun h=>hI.next G2 h xG,fun h=>hI.done G2 h.symm xG,hs⟩))
   ·rintro fr w ⟨rfl,rs,hq,-,hT,hs⟩;replace hT:=hT rfl;refine nT (.af (.z zm (.zn zg (.ret (Fin.bu results207 rfl ?_)))));obtain ⟨H1,g1,g2,hs⟩:=Df hq B7 ai hs;exact ⟨H1,rs,g1,g2,hq,hT,hs.tail⟩
theorem qA{w:World}{rs:List (List Int)}{n:Nat}(hs:St H w σ)(hM:RT H vm rs)(hq:Sq n rs)(hn:n≤1000):
  ab8 208 [vm] w fun v w'=>∃b,v= .bool b∧(b=true↔∀i,i<n→¬gt rs i i<0)∧St H w' σ:=by
 obtain ⟨a,c,rfl⟩:=hM.shape;have Ff:=hq.1;refine Cl.o func208 ntmps208 ag1 ?_;refine .af (.zn zg (.seq (.af (.z zm (.z (dk aC) (.zn zm (.for (N:=rs.length) (J:=fun k fr w=>fr=[(0,.slice a rs.length c)]∧(∀i,i<k→¬gt rs i i<0)∧St H w σ) ai ?_ ?_ ?_)))))))
 ·exact .mk ⟨rfl,fun i h=>by omega,hs⟩
 ·rintro k fr w hk ⟨rfl,h0,hs⟩;refine .block (.af (.z zm (.zn zg (.af (.z zm (.z zm (.ixT hs hM rfl rfl aC aO hk rfl ?_)))))));intro yE o11 a11 c11 pM Zl;refine .q hs (aF rfl an pM) (.z zm (.ixY hs Zl rfl rfl ae ak (bG (l:=gr rs k) (i:=k) (by rw [hq.2 k ai];omega)) rfl ?_));intro sF o14 kE;refine .q hs (aF rfl aj kE) (.zn gV (.bA rfl (fun dY=>?_) (fun dY=>?_)))
  ·exact .af (.zn zg (.ret (rB (rT (rB (rT (Fin.bu results208 rfl ⟨false,rfl,⟨fun h=>(by cases h),fun h=>(h k ai dY).elim⟩,hs⟩)))))))
  ·refine .skip (nB (nT ?_));exact .mk ⟨rfl,fun i hi=>by
    by_cases e:i=k
    ·subst e;exact dY
    ·exact h0 i ai,hs⟩
 ·rintro fr w ⟨rfl,h0,hs⟩;exact nT (.af (.zn zg (.ret (Fin.bu results208 rfl ⟨true,rfl,⟨fun _ i hi=>h0 i ai,fun _=>rfl⟩,hs⟩))))
theorem u9{w:World}{v:Value}{n:Nat}(hs:St H w σ)(hr:RI H v ws)(hl:ws.length=n+1)(hn:n≤1000)(hz:bU ws (n+1)≤FF):
  ab8 307 [v] w fun u w'=>∃b cap sp lf,u= .slice (some ⟨b,0,none⟩) (n+1) cap∧lf.length=n+1∧(∀v<n+1,gi lf v=pZ ws (n+1) v)∧St H w' (.blk b (Is lf++sp)::σ):=by
 obtain ⟨a,c,rfl⟩:=RI.shape hr;have Zw:FF=3600000000000:=rfl;refine Cl.o func307 ntmps307 ag1 ?_;refine .af (.zn zg (.af (.o (.buildSlice (cells:=[]) hs sC rfl rfl fun b6 w hs=>?_))));refine .z zm (.o (.append (xs:=[]) hs df rfl rfl (.full (len:=0) rfl) (.ints hr) (ki ws) (fun l' h=>by simp at h;obtain rfl:l'=0:=ai;omega) ?_));intro v8 en8 w hO hs;rw [List.nil_append] at hO
 rcases hO with ⟨_,_,h0,_⟩|⟨b8,l8,c8,sp,rfl,rfl,h5,h6,h7⟩
 ·exfalso;have h1:ws.length=0:=by simpa using congrArg List.length h0
  omega
 obtain rfl:l8=n+1:=by simp at h5;omega
 refine .zn zg (.af (.z zm (.q hs (eH (k:=0) rfl rfl ae ak rfl ai) (.o (.store hs rfl rfl ak ?_ dC (by simp;omega) (HZ ai 0 sp))))));intro w hs;refine .nil (.seq (.af (.z zm (.q hs (vi (k:=1) rfl rfl ae ak rfl ai) ?_))));have hT:=RI.tail hr (k:=1) ai;have hTl:(ws.drop 1).length=n:=by rw [List.length_drop];omega
 refine .z (dk ae) (.zn zm (.for (N:=n) (J:=fun k fr w=>fr=[(12,.slice (if c=1 then a else a.map (·.add (1*1))) (ws.length - 1) (c - 1)),(3,.slice (some ⟨b8,0,none⟩) (n+1) c8)]∧∃lf,(lf.length=n+1∧gi lf 0= -ng ws k∧∀v,0<v→gi lf v=gi ws v)∧St H w (.blk b8 (Is lf++sp)::σ)) ai ?_ ?_ ?_))
 ·exact .mk ⟨rfl,_,⟨by simp [hl],by rw [fi ai,if_pos rfl];rfl,fun v hv=>by rw [fi ai,if_neg ai]⟩,hs⟩ (hs:= .da rfl rfl (.da rfl ai aM))
 ·rintro k fr w hk ⟨rfl,lf,⟨h8,h9,ZA⟩,hs⟩;have hx:=bG (l:=ws.drop 1) (i:=k) ai;have e1:gi (ws.drop 1) k=gi ws (k+1):=by simp [gi,List.getD]
  have Ej:=xf ws k;have BD:=kO ws (v:=k+1) (n:=n+1) ai;have S9:=po (f:=fun v=>max (gi ws v) (-gi ws v)) (fun v=>by omega) (k:=k+1) (n:=n+1) ai;change bU ws (k+1)≤bU ws (n+1) at S9;refine .block (.af (.ixY hs hT rfl rfl ae ak hx rfl ?_));intro nD o16 dY;refine .q hs (aF rfl aj dY) ?_;rw [e1];refine .zn zg (.region (.z zm (.q hs (eH (k:=0) rfl rfl ae ak rfl ai) (.q hs (eQ rfl aj (hv:=sI (bG (l:=lf) (i:=0) ai) sp)) ?_))));refine .z zm (.z gE (.q hs (eH (k:=0) rfl rfl ae ak rfl ai) (.o (.store hs rfl rfl ak ?_ dC (by simp;omega) (HZ ai _ sp)))));intro w hs;exact .nil (nB (nT (.mk ⟨rfl,_,⟨by simp [h8],by rw [fi ai,if_pos rfl,h9];simp only [ng,a8];omega,fun v hv=>by rw [fi ai,if_neg ai];exact ZA v hv⟩,hs⟩)))
 ·rintro fr w ⟨rfl,lf,⟨h8,h9,ZA⟩,hs⟩;refine nT (.af (.z zm (.zn zg (.ret (Fin.bu results307 rfl ?_)))));exact ⟨b8,c8,sp,lf,rfl,h8,fun v hv=>by
   cases v with
   |zero=>rw [h9,CZ]
   |succ v=>rw [ZA _ ai,C0],hs⟩
theorem AF{w:World}{Fs:List (List Int)}{n bF:Nat}{bs:List Nat}(hs:St H w σ)(hM:RT H vm Ms)(Gk:Sq n Ms)(hn:n≤1000)(Kq:Mem σ (.blk bF (bs.map (ptr n))))(B7:bs.length=n)(Kh:Sq n Fs)(hF:∀i,i<n→Mem σ (.blk (gb bs i) (Is (gr Fs i)))):
  ab8 309 [vm,.slice (some ⟨bF,0,none⟩) n n] w fun v w'=>v=I (IntKind.i64.wrap (a8 (fun a=>a8 (fun b=>cell (gt Ms) (gt Fs) a b) n) n))∧St H w' σ:=by
 obtain ⟨am,cm,rfl⟩:=hM.shape;have Rr:=Gk.1;have B0:=Kh.1;refine Cl.o func309 ntmps309 ag2 ?_;refine .af (.zn zg (.af (.zn zg (.seq (.af (.z zm (.z (dk aC) (.zn zm (.for (N:=n) (J:=fun k fr w=>fr=[(5,I (IntKind.i64.wrap (a8 (fun a=>a8 (fun b=>cell (gt Ms) (gt Fs) a b) n) k))),(0,.slice am Ms.length cm),(1,.slice (some ⟨bF,0,none⟩) n n)]∧St H w σ) ai ?_ ?_ ?_)))))))))
 ·exact .mk ⟨rfl,hs⟩ (hs:= .da rfl rfl (.da rfl ai (.da rfl (by simp [a8,pH]) aM)))
 ·rintro i fr w hi ⟨rfl,hs⟩;have hMi:i<Ms.length:=by omega
  refine .block (.af (.z zm (.zn zg (.af (.z zm (.z (dk aC) (.zn zm (.for (N:=n) (J:=fun k fr w=>fr=[(5,I (IntKind.i64.wrap (a8 (fun a=>a8 (fun b=>cell (gt Ms) (gt Fs) a b) n) i+a8 (fun b=>cell (gt Ms) (gt Fs) i b) k))),(6,I (i:Int)),(10,I (i:Int)),(9,I (n:Int)),(0,.slice am Ms.length cm),(1,.slice (some ⟨bF,0,none⟩) n n)]∧St H w σ) ai ?_ ?_ ?_))))))))
  ·exact .mk ⟨rfl,hs⟩ (hs:= .da rfl rfl (.da rfl ai (.da rfl (by simp [a8]) aM)))
  ·rintro k fr w hk ⟨rfl,hs⟩;have hrM:(gr Ms i).length=n:=Gk.2 i hi;have hFi:=hF i hi;have vW:∀z,0<gt Fs i k→z=gt Fs i k*gt Ms i k→z=cell (gt Ms) (gt Fs) i k:=fun z h e=>by unfold cell;rw [if_pos h,e]
   refine .block (.af (.z zm (.zn zg (.af (.z zm (.z zm (.q hs (eH (k:=i) rfl rfl aC aO rfl hi) (.q hs (eQ rfl an (hm:=Kq) (hv:=dJ ai)) (.z zm (.q hs (eH (k:=k) rfl rfl ae ak rfl hk) (.q hs (eQ rfl aj (hm:=hF i hi) (hv:=iO Kh hi hk)) (.zn ld (.bA rfl (fun gv=>?_) (fun gv=>?_))))))))))))))
   ·refine .draw mix rfl hs fun w hs=>?_
    refine .zw 0 rfl zm ?_;refine .z 1 rfl zm ?_;refine .z 2 rfl zm ?_;refine .zw 3 rfl (eH (k:=i) rfl rfl aC aO rfl hi) (.load (i:=4) hs rfl aD .none rfl an ?_ Kq (dJ ai));refine .zw 5 rfl zm (.zw 6 rfl (eH (k:=k) rfl rfl ae ak rfl hk) (.load (i:=7) hs rfl aD .none rfl aj ?_ (hF i hi) (iO Kh hi hk)));refine .zw 8 rfl zm ?_;refine .z 9 rfl zm ?_;refine .ixT (i:=10) hs rfl aD .none hM rfl rfl aC aO hMi rfl ?_;intro WS o36 a36 c36 lK R8;refine .r (i:=11) hs rfl aD .none (aF rfl an lK) ?_;refine .zw 12 rfl zm (.ixX (enc:=fun x=>[I x]) (i:=13) hs rfl aD .none R8 rfl rfl ae ak (bG (l:=gr Ms i) (i:=k) ai) rfl ?_);intro SA o39 kq;replace kq:=bJ.one kq;refine .r (i:=14) hs rfl aD .none (aF rfl aj kq) ?_;refine .zw 15 rfl (N1 rfl rfl) (.zw 16 rfl (Jp rfl rfl) (.zw 17 rfl zg (.DT hs (nB (nT ?_)))));exact .mk ⟨rfl,hs⟩ (hs:= .da rfl ai (.da rfl rfl (.da rfl (by
     rw [Fb,uo,show gt Fs i k*gi (gr Ms i) k=cell (gt Ms) (gt Fs) i k from vW _ gv rfl];simp only [a8]
     congr 1;omega) aM)))
   ·refine .skip (nB (nT ?_));exact .mk ⟨rfl,hs⟩ (hs:= .da rfl ai (.da rfl rfl (.da rfl (by
     have:cell (gt Ms) (gt Fs) i k=0:=by unfold cell;rw [if_neg gv]
     simp only [a8,this]
     congr 1;omega) aM)))
  ·rintro fr w ⟨rfl,hs⟩;exact nB (nT (.mk ⟨rfl,hs⟩ (hs:= .da rfl ai (.da rfl rfl (.da rfl (by simp only [a8]) aM)))))
 ·rintro fr w ⟨rfl,hs⟩;exact nT (.af (.z zm (.zn zg (.ret (Fin.bu results309 rfl ⟨rfl,hs⟩)))))
set_option maxHeartbeats 8000000 in
theorem yW{w:World}{Fs:List (List Int)}{n bF bN FX:Nat}{bs:List Nat}{spN:List Value}{need:List Int}{es:List Arc}{D:Nat→Int}(hs:St H w σ)(hM:RT H vm Ms)(Gk:Sq n Ms)
  (Kq:Mem σ (.blk bF (bs.map (ptr n)))) (B7:bs.length=n) (Kh:Sq n Fs) (hF:∀i,i<n→Mem σ (.blk (gb bs i) (Is (gr Fs i)))) (hN:Mem σ (.blk bN (Is need++spN))) (hNl:need.length=n)
  (hT:Tab n (gt Ms) es) (hC:BJ n es ts (gt Fs)) (hg:VG n (dN es ts) D):
  ab8 308 [vm,.slice (some ⟨bF,0,none⟩) n n,.slice (some ⟨bN,0,none⟩) n FX] w fun u w'=>∃H1 vd vb s,HLe H H1∧u= .tuple #[vd,vb]∧RI H1 vd s.cost∧RS H1 2 vb (s.by_.map (pq es))∧od n (dN es ts) (fun v=>gi need v<0) D (fun _=>True) false s∧St H1 w' σ:=by
 obtain ⟨am,cm,rfl⟩:=hM.shape;obtain rfl:n=Ms.length:=Gk.1.symm;have B0:=Kh.1;have Wq:=hg.n0;have pJ:free=1000000000:=rfl;have xG:=hg.n1;have hD0:=hg.d0;have Sb:=hg.d1;have OV:∀x∈es,-1400000≤x.c∧x.c≤1400000:=fun x hx=>by have:=hg.ok x ((px hT hC).2 (.inl hx));omega
 refine Cl.o func308 ntmps308 ag3 ?_;refine .af (.z zg (.zn zg (.af (.z zm (.z (dk aC) (.o (.vO Ms.length hs rfl rfl ae jK rfl ak dA ai fun nD w hs=>?_)))))));refine .zn zg (.af (.z zm (.z (dk aC) (.o (.Xf Ms.length hs rfl rfl fh typeInfo337 rfl fP zeroValue337 ai fun pX w hs=>?_)))));refine .zn zg (.seq (.af (.z zm (.z (dk ae) (.zn zm (.for (N:=Ms.length) (J:=fun k fr w=>fr=[(8,.slice (some ⟨nD,0,none⟩) Ms.length Ms.length),(9,.slice (some ⟨pX,0,none⟩) Ms.length Ms.length),(0,.slice am Ms.length cm),(1,.slice (some ⟨bF,0,none⟩) Ms.length Ms.length),(2,.slice (some ⟨bN,0,none⟩) Ms.length FX)]∧∃C,(C.length=Ms.length∧∀v<k,gi C v=if gi need v<0 then 0 else free)∧St H w (.blk pX (List.replicate k [I (-1),Value.bool false]++List.replicate (Ms.length - k) [I 0,Value.bool false]).flatten:: .blk nD (Is C)::σ)) ai ?_ ?_ ?_))))))
 ·exact .mk ⟨rfl,_,⟨bK,fun v hv=>by omega⟩,hs⟩
 ·rintro k fr w hk ⟨rfl,C,⟨Kr,El⟩,hs⟩;have LC:=NT Ms.length hk [I (-1),Value.bool false] rfl [I 0,Value.bool false] rfl;refine .block (.af (.z zm (.zn zg (.af (.z zm (.z zm ?_))))));first|(refine .ixv hs ae ak ?_;intro z6 o27 nS)|refine .z (zix ae ak) ?_
  refine .o (.store hs rfl rfl ak fun w hs=>?_);refine .nil (.af (.z zm (.z zm (.z (zbd [_,_] ke) ?_))));first|(refine .ixw hs fh fP ?_;intro Pp o31 oU)|refine .z (nH fh fP) ?_
  refine .o (.aJ (vs:=[I (-1),Value.bool false]) hs rfl rfl fP ?_ dC (by simp;omega) LC);intro w hs;refine .nil (.af (.z zm (.z zm ?_)));first|(refine .ixv hs ae ak ?_;intro Qv o34 kJ)|refine .z (zix ae ak) ?_
  refine .q hs (eQ rfl aj (hm:= .there (.there hN)) (hv:=sI (bG (l:=need) (i:=k) ai) spN)) ?_;refine .zn gV (.bA rfl (fun lK=>?_) (fun lK=>?_))
  ·refine .region (.z zm (.z zm ?_));first|(refine .ixv hs ae ak ?_;intro SA o39 kq)|refine .z (zix ae ak) ?_
   refine .o (.store hs rfl rfl ak ?_ dC (Bk (by rw [List.length_set];omega)) (wN _ _ _));intro w hs;refine .nil (nB (nT ?_));exact .mk ⟨rfl,_,⟨by simp [Kr],fun v hv=>by
    rw [fi (by rw [List.length_set];omega)];by_cases e:v=k
    ·subst e;rw [if_pos rfl,if_pos lK]
    ·rw [if_neg e,fi ai,if_neg e];exact El v ai⟩,hs⟩
  ·refine .skip (nB (nT ?_));exact .mk ⟨rfl,_,⟨by simp [Kr],fun v hv=>by
    rw [fi ai];by_cases e:v=k
    ·subst e;rw [if_pos rfl,if_neg lK]
    ·rw [if_neg e];exact El v ai⟩,hs⟩
 ·rintro fr w ⟨rfl,C,⟨Kr,El⟩,hs⟩;rw [Nat.sub_self,List.replicate_zero,List.append_nil,J6 es] at hs;have hI:Pq Ms.length need Ms.length ⟨C,List.replicate Ms.length ⟨0,0,0,-1⟩⟩:=⟨Kr,bK,El,fun v hv=>lh _ _ hv⟩;have hV0:=hI.inv (Dn:=fun _=>True) hg;refine nT (.seq (.af (.zn zg (.block (.loop (fun p:Bool×BS=>⟨160,[],[(11,.bool p.1),(8,.slice (some ⟨nD,0,none⟩) Ms.length Ms.length),(9,.slice (some ⟨pX,0,none⟩) Ms.length Ms.length),(0,.slice am Ms.length cm),(1,.slice (some ⟨bF,0,none⟩) Ms.length Ms.length),(2,.slice (some ⟨bN,0,none⟩) Ms.length FX)]⟩) (fun p w=>od Ms.length (dN es ts) (fun v=>gi need v<0) D (fun _=>True) p.1 p.2∧St H w (.blk pX (lj es p.2.by_):: .blk nD (Is p.2.cost)::σ)) (fun p=>2*WMv Ms.length D p.2+(if p.1 then 1 else 0)) (true,⟨C,List.replicate Ms.length ⟨0,0,0,-1⟩⟩) aM ⟨hV0,hs⟩ ?_)))));rintro ⟨ag,s⟩ w ⟨hV,hs⟩;dsimp only at hV hs ⊢;refine .seq (.af (.zn zm (.cond rfl (fun wb=>?_) (fun wb=>?_))))
  ·refine .skip (nT (.block (.af (.zn zg (.af (.z zm (.z (dk aC) (.zn zm (.for (N:=Ms.length) (J:=fun a fr w=>∃ag s',fr=[(11,.bool ag),(8,.slice (some ⟨nD,0,none⟩) Ms.length Ms.length),(9,.slice (some ⟨pX,0,none⟩) Ms.length Ms.length),(0,.slice am Ms.length cm),(1,.slice (some ⟨bF,0,none⟩) Ms.length Ms.length),(2,.slice (some ⟨bN,0,none⟩) Ms.length FX)]∧od Ms.length (dN es ts) (fun v=>gi need v<0) D (Ep a 0) ag s'∧(WMv Ms.length D s'≤WMv Ms.length D s∧(ag=true→WMv Ms.length D s'<WMv Ms.length D s))∧St H w (.blk pX (lj es s'.by_):: .blk nD (Is s'.cost)::σ)) ai ?_ ?_ ?_)))))))))
   ·exact .mk ⟨false,s,rfl,hV.next.zero,⟨Nat.le_refl _,fun h=>by cases h⟩,hs⟩
   ·rintro a fr w ha ⟨ag',s',rfl,uP,hW,hs⟩;have Gl:=uP.lc;have OA:=uP.top a ha;refine .block (.af (.z zm (.zn zg (.seq (.af (.z zm (.z zm ?_)))))));first|(refine .ixv hs ae ak ?_;intro ZK o49 xL)|refine .z (zix ae ak) ?_
    first|refine .q hs (eQ rfl aj (hm:=by repeat (first|exact .here|assumption|exact Mem.row ai ai|refine .there ?_|refine Mem.l6 ?_)) (hv:=by first|rfl|exact dJ ai|exact iO dv ai ai|exact gd gM)) ?_|refine .q hs (aF rfl aj dv) ?_
    refine .zn fJ (.bA rfl (fun B3=>?_) (fun B3=>?_))
    ·exact .exit (xT (xB (nT (.mk ⟨ag',s',rfl,uP.far B3,hW,hs⟩))))
    ·refine .skip (nT (.af (.z zm (.z (dk aC) (.zn zm (.for (N:=Ms.length) (J:=fun b fr w=>∃ag s',fr=[(11,.bool ag),(12,I (a:Int)),(44,I (a:Int)),(43,I (Ms.length:Int)),(8,.slice (some ⟨nD,0,none⟩) Ms.length Ms.length),(9,.slice (some ⟨pX,0,none⟩) Ms.length Ms.length),(0,.slice am Ms.length cm),(1,.slice (some ⟨bF,0,none⟩) Ms.length Ms.length),(2,.slice (some ⟨bN,0,none⟩) Ms.length FX)]∧od Ms.length (dN es ts) (fun v=>gi need v<0) D (Ep a b) ag s'∧(WMv Ms.length D s'≤WMv Ms.length D s∧(ag=true→WMv Ms.length D s'<WMv Ms.length D s))∧gi s'.cost a<free∧St H w (.blk pX (lj es s'.by_):: .blk nD (Is s'.cost)::σ)) ai ?_ ?_ ?_))))))
     ·exact .mk ⟨ag',s',rfl,uP,hW,by simp only [free];omega,hs⟩
     ·clear uP Gl OA hW;rintro b fr w hb ⟨ag',s',rfl,uP,hW,Ko,hs⟩;have Gl:=uP.lc;have r9:=uP.low hg ha Ko;have xH:=uP.lo a ha;have hDa:=Sb a ha;have OA:=uP.top b hb;have aaP:(gr Ms a).length=Ms.length:=Gk.2 a ha;have aaO:(gr Ms b).length=Ms.length:=Gk.2 b hb;have hFb:=hF b hb;refine .block (.af (.z zm (.zn zg (.cut (fun fs w=>∃ag s',lr fs ⟨160,[],[(11,.bool ag),(13,I (b:Int)),(54,I (b:Int)),(53,I (Ms.length:Int)),(12,I (a:Int)),(44,I (a:Int)),(43,I (Ms.length:Int)),(8,.slice (some ⟨nD,0,none⟩) Ms.length Ms.length),(9,.slice (some ⟨pX,0,none⟩) Ms.length Ms.length),(0,.slice am Ms.length cm),(1,.slice (some ⟨bF,0,none⟩) Ms.length Ms.length),(2,.slice (some ⟨bN,0,none⟩) Ms.length FX)]⟩∧od Ms.length (dN es ts) (fun v=>gi need v<0) D (M6 es a b) ag s'∧(WMv Ms.length D s'≤WMv Ms.length D s∧(ag=true→WMv Ms.length D s'<WMv Ms.length D s))∧gi s'.cost a<free∧St H w (.blk pX (lj es s'.by_):: .blk nD (Is s'.cost)::σ)) ?_ ?_))))
      ·refine .cut (fun fs w=>∃p,lr fs ⟨160,[],[(88,.bool p),(11,.bool ag'),(13,I (b:Int)),(54,I (b:Int)),(53,I (Ms.length:Int)),(12,I (a:Int)),(44,I (a:Int)),(43,I (Ms.length:Int)),(8,.slice (some ⟨nD,0,none⟩) Ms.length Ms.length),(9,.slice (some ⟨pX,0,none⟩) Ms.length Ms.length),(0,.slice am Ms.length cm),(1,.slice (some ⟨bF,0,none⟩) Ms.length Ms.length),(2,.slice (some ⟨bN,0,none⟩) Ms.length FX)]⟩∧(p=true→a≠b∧gt Ms a b≠free∧gi s'.cost a+gt Ms a b<gi s'.cost b)∧(p=false→a=b∨gt Ms a b=free∨¬gi s'.cost a+gt Ms a b<gi s'.cost b)∧St H w (.blk pX (lj es s'.by_):: .blk nD (Is s'.cost)::σ)) ?_ ?_
       ·refine .draw mix rfl hs fun w hs=>?_
        refine .zw 0 rfl zm ?_;refine .z 1 rfl zm ?_;refine .z 2 rfl fU ?_;refine .z 3 rfl zm ?_;refine .F1 (t':=60) rfl (fun Mm=>?_) (fun Mm=>?_)
        ·refine .zw 4 rfl zm ?_;refine .z 5 rfl zm ?_;refine .ixT (i:=6) hs rfl aD (.some rfl rfl) hM rfl rfl aC aO ha rfl ?_;intro VE o63 a63 c63 oq Zb;refine .r (i:=7) hs rfl aD (.some rfl rfl) (aF rfl an oq) ?_;refine .zw 8 rfl zm (.ixX (enc:=fun x=>[I x]) (i:=9) hs rfl aD (.some rfl rfl) Zb rfl rfl ae ak (bG (l:=_) (i:=b) ai) rfl ?_);intro b66 o66 sa;replace sa:=bJ.one sa;refine .r (i:=10) hs rfl aD (.some rfl rfl) (aF rfl aj sa) ?_;refine .zw 11 rfl fU ?_;refine .z 12 rfl zpT ?_;refine .z 13 rfl zm ?_;refine .F1 (t':=70) rfl (fun FC=>?_) (fun FC=>?_)
         ·refine .zw 14 rfl zm ?_;refine .z 15 rfl zm ?_;have B1:gt Ms a b≠free:=FC;have hMb: -1400000≤gi (gr Ms a) b∧gi (gr Ms a) b≤1400000:=by
           obtain ⟨x,hx,e1,e2⟩:=hT.all a b ha hb (fun e=>Mm (by rw [e])) B1;have h1:=OV x hx;have h2:=(hT.ok x hx).2.2.2.1;rw [e1,e2] at h2;change gi (gr Ms a) b=x.c at h2;omega
          first|(refine .ixv 16 rfl hs ae ak ?_;intro b73 o73 YF)|refine .z 16 rfl (zix ae ak) ?_
          first|refine .load (i:=17) hs rfl aD (.some rfl rfl) rfl aj ?_ (by repeat (first|exact .here|assumption|exact Mem.row ai ai|refine .there ?_|refine Mem.l6 ?_)) (by first|rfl|exact dJ ai|exact iO dv ai ai|exact gd gM)|refine .r (i:=17) hs rfl aD (.some rfl rfl) (aF rfl aj dv) ?_
          refine .zw 18 rfl zm ?_;refine .z 19 rfl zm ?_;refine .ixT (i:=20) hs rfl aD (.some rfl rfl) hM rfl rfl aC aO ha rfl ?_;intro ab0 o77 a77 c77 G5 Y9;refine .r (i:=21) hs rfl aD (.some rfl rfl) (aF rfl an G5) ?_;refine .zw 22 rfl zm (.ixX (enc:=fun x=>[I x]) (i:=23) hs rfl aD (.some rfl rfl) Y9 rfl rfl ae ak (bG (l:=_) (i:=b) ai) rfl ?_);intro b80 o80 Fo;replace Fo:=bJ.one Fo;refine .r (i:=24) hs rfl aD (.some rfl rfl) (aF rfl aj Fo) ?_;refine .zw 25 rfl cV ?_;refine .z 26 rfl zm ?_;refine .z 27 rfl zm ?_;first|(refine .ixv 28 rfl hs ae ak ?_;intro b85 o85 UF)|refine .z 28 rfl (zix ae ak) ?_
          first|refine .load (i:=29) hs rfl aD (.some rfl rfl) rfl aj ?_ (by repeat (first|exact .here|assumption|exact Mem.row ai ai|refine .there ?_|refine Mem.l6 ?_)) (by first|rfl|exact dJ ai|exact iO dv ai ai|exact gd gM)|refine .r (i:=29) hs rfl aD (.some rfl rfl) (aF rfl aj dv) ?_
          refine .zw 30 rfl gV ?_;refine .z 31 rfl zpT ?_;refine .DT hs ?_;exact nT ⟨_,aM,by
           intro hp;first
            |(cases hp;done)
            |exact ⟨fun e=>Mm (by rw [e]),FC,of_decide_eq_true hp⟩,by
           intro hp;first
            |(cases hp;done)
            |exact .inl ai
            |exact .inr (.inl FC)
            |exact .inr (.inr (of_decide_eq_false hp)),hs⟩
         ·refine .F 14 rfl (.F 15 rfl (.F 16 rfl (.F 17 rfl (.F 18 rfl (.F 19 rfl ?_)))));refine .F 20 rfl (.F 21 rfl (.F 22 rfl (.F 23 rfl (.F 24 rfl (.F 25 rfl (.F 26 rfl (.F 27 rfl (.F 28 rfl (.F 29 rfl (.F 30 rfl (.zw 31 rfl zpF (.DT hs ?_))))))))))));exact nT ⟨_,aM,by
           intro hp;first
            |(cases hp;done)
            |exact ⟨fun e=>Mm (by rw [e]),FC,of_decide_eq_true hp⟩,by
           intro hp;first
            |(cases hp;done)
            |exact .inl ai
            |exact .inr (.inl FC)
            |exact .inr (.inr (of_decide_eq_false hp)),hs⟩
        ·refine .F 4 rfl (.F 5 rfl (.F 6 rfl (.F 7 rfl (.F 8 rfl (.F 9 rfl (.F 10 rfl (.F 11 rfl (.zw 12 rfl zpF ?_))))))));refine .z 13 rfl zm ?_;refine .F 14 rfl (.F 15 rfl (.F 16 rfl (.F 17 rfl (.F 18 rfl (.F 19 rfl ?_)))));refine .F 20 rfl (.F 21 rfl (.F 22 rfl (.F 23 rfl (.F 24 rfl (.F 25 rfl (.F 26 rfl (.F 27 rfl (.F 28 rfl (.F 29 rfl (.F 30 rfl (.zw 31 rfl zpF (.DT hs ?_))))))))))));exact nT ⟨_,aM,by
          intro hp;first
           |(cases hp;done)
           |exact ⟨fun e=>Mm (by rw [e]),FC,of_decide_eq_true hp⟩,by
          intro hp;first
           |(cases hp;done)
           |exact .inl ai
           |exact .inr (.inl FC)
           |exact .inr (.inr (of_decide_eq_false hp)),hs⟩
       ·rintro fs w ⟨p,gP,zQ,uO,hs⟩;refine WE.sub ?_ gP;refine (.cond rfl (fun xK=>?_) (fun xK=>?_))
        ·refine .seq (.draw mix rfl hs fun w hs=>?_);obtain ⟨Ta,B1,fD⟩:=zQ xK;obtain ⟨x,hx,e1,e2⟩:=hT.all a b ha hb Ta B1;have e3:gi (gr Ms a) b=x.c:=by
          have h2:=(hT.ok x hx).2.2.2.1;rw [e1,e2] at h2;exact h2
         have hxc:=OV x hx;have yv:¬x.l<0:=by have:=(hT.at hx).2;omega
         have LC:pq es x=[I (a:Int),.bool false]:=by
          unfold pq;rw [if_neg yv,e1];simp [(hT.xU hx).1]
         have GV:tB (lj es s'.by_) (b*2) [I (a:Int),Value.bool false]=lj es (s'.by_.set b x):=by rw [←LC];exact Dk (by have:=uP.lb;omega) x
         have XD:s'.rlx x=⟨s'.cost.set b (gi s'.cost a+gi (gr Ms a) b),s'.by_.set b x⟩:=by unfold BS.rlx;rw [e1,e2,e3]
         have LX:s'.can x:=by unfold BS.can;rw [e1,e2,←e3];exact fD
         have Ef:x∈dN es ts:=(px hT hC).2 (.inl hx);have Ei:=uP.lb;refine .zw 0 rfl zm ?_;refine .z 1 rfl zm ?_;refine .z 2 rfl zm ?_;refine .z 3 rfl zm ?_;first|(refine .ixv 4 rfl hs ae ak ?_;intro b93 o93 G3)|refine .z 4 rfl (zix ae ak) ?_
         first|refine .load (i:=5) hs rfl aD .none rfl aj ?_ (by repeat (first|exact .here|assumption|exact Mem.row ai ai|refine .there ?_|refine Mem.l6 ?_)) (by first|rfl|exact dJ ai|exact iO dv ai ai|exact gd gM)|refine .r (i:=5) hs rfl aD .none (aF rfl aj dv) ?_
         refine .zw 6 rfl zm ?_;refine .z 7 rfl zm ?_;refine .ixT (i:=8) hs rfl aD .none hM rfl rfl aC aO ha rfl ?_;intro ZG o97 a97 c97 OM Y8;refine .r (i:=9) hs rfl aD .none (aF rfl an OM) ?_;refine .zw 10 rfl zm (.ixX (enc:=fun x=>[I x]) (i:=11) hs rfl aD .none Y8 rfl rfl ae ak (bG (l:=_) (i:=b) ai) rfl ?_);intro SB o100 nU;replace nU:=bJ.one nU;refine .r (i:=12) hs rfl aD .none (aF rfl aj nU) ?_;refine .zw 13 rfl cV ?_;first|(refine .ixv 14 rfl hs ae ak ?_;intro Z5 o103 Fz)|refine .z 14 rfl (zix ae ak) ?_
         refine .ET 15 hs ?_;refine .store hs rfl rfl ak ?_;intro w hs;refine .go (.DT hs (.af (.z zm (.z zm (.z zm (.z (zbd [_,_] ke) ?_))))));first|(refine .ixw hs fh fP ?_;intro b108 o108 IE)|refine .z (nH fh fP) ?_
         refine .o (.aJ (vs:=[I (a:Int),Value.bool false]) hs rfl rfl fP ?_ dC (by rw [qp];simp<;>omega) GV);intro w hs;refine .nil (.region (.zn zg (nT ?_)));have hR:=uP.BP (Dn':=M6 es a b) hg Ef (by rw [e1];exact Ko) LX;have hL:=uP.less hg Ef (by rw [e1];exact Ko) LX;rw [XD] at hR hL;exact ⟨true,_,aM,hR,⟨ai,fun _=>by omega⟩,by dsimp only;rw [fi ai,if_neg Ta];exact Ko,hs⟩
        ·refine .skip (nT ?_);exact ⟨ag',s',aM,uP.noF (fun x hx e1 e2 hc=>by
          obtain ⟨b1,b2,b3,b4,b5⟩:=hT.ok x hx;rw [e1,e2] at b4
          rcases uO xK with h|h|h
          ·exact b3 (by rw [e1,e2,h])
          ·exact b5 (by rw [←b4,h])
          ·exact h (by rw [b4];exact hc.2)),hW,Ko,hs⟩
      ·clear uP hW Gl r9 xH OA Ko;rintro fs w ⟨ag',s',gP,uP,hW,Ko,hs⟩;refine WE.sub ?_ gP;have Gl:=uP.lc;have r9:=uP.low hg ha Ko;have xH:=uP.lo a ha;have OA:=uP.top b hb;refine .cut (fun fs w=>∃p,lr fs ⟨160,[],[(135,.bool p),(11,.bool ag'),(13,I (b:Int)),(54,I (b:Int)),(53,I (Ms.length:Int)),(12,I (a:Int)),(44,I (a:Int)),(43,I (Ms.length:Int)),(8,.slice (some ⟨nD,0,none⟩) Ms.length Ms.length),(9,.slice (some ⟨pX,0,none⟩) Ms.length Ms.length),(0,.slice am Ms.length cm),(1,.slice (some ⟨bF,0,none⟩) Ms.length Ms.length),(2,.slice (some ⟨bN,0,none⟩) Ms.length FX)]⟩∧(p=true→0<gt Fs b a∧gi s'.cost a - gt Ms b a<gi s'.cost b)∧(p=false→¬0<gt Fs b a∨¬gi s'.cost a - gt Ms b a<gi s'.cost b)∧St H w (.blk pX (lj es s'.by_):: .blk nD (Is s'.cost)::σ)) ?_ ?_
       ·refine .draw mix rfl hs fun w hs=>?_
        refine .zw 0 rfl zm ?_;refine .z 1 rfl zm ?_;refine .zw 2 rfl (eH (k:=b) rfl rfl aC aO rfl hb) (.load (i:=3) hs rfl aD .none rfl an ?_ (.there (.there Kq)) (dJ ai));refine .zw 4 rfl zm (.zw 5 rfl (eH (k:=a) rfl rfl ae ak rfl ha) (.load (i:=6) hs rfl aD .none rfl aj ?_ (.there (.there (hF b hb))) (iO Kh hb ha)));refine .zw 7 rfl ld ?_;refine .z 8 rfl zm ?_;refine .ie (t':=117) rfl (fun CH=>?_) (fun CH=>?_)
        ·refine .zw 9 rfl zm ?_;refine .z 10 rfl zm ?_;have hMb: -1400000≤gi (gr Ms b) a∧gi (gr Ms b) a≤1400000:=by
          obtain ⟨x,hx,e1,e2⟩:=hC.pos hb ha CH;have h1:=OV x hx;have h2:=(hT.ok x hx).2.2.2.1;rw [e1,e2] at h2;change gi (gr Ms b) a=x.c at h2;omega
         first|(refine .ixv 11 rfl hs ae ak ?_;intro ZX o120 US)|refine .z 11 rfl (zix ae ak) ?_
         first|refine .load (i:=12) hs rfl aD (.some rfl rfl) rfl aj ?_ (by repeat (first|exact .here|assumption|exact Mem.row ai ai|refine .there ?_|refine Mem.l6 ?_)) (by first|rfl|exact dJ ai|exact iO dv ai ai|exact gd gM)|refine .r (i:=12) hs rfl aD (.some rfl rfl) (aF rfl aj dv) ?_
         refine .zw 13 rfl zm ?_;refine .z 14 rfl zm ?_;refine .ixT (i:=15) hs rfl aD (.some rfl rfl) hM rfl rfl aC aO hb rfl ?_;intro VN o124 a124 c124 Me Ve;refine .r (i:=16) hs rfl aD (.some rfl rfl) (aF rfl an Me) ?_;refine .zw 17 rfl zm (.ixX (enc:=fun x=>[I x]) (i:=18) hs rfl aD (.some rfl rfl) Ve rfl rfl ae ak (bG (l:=_) (i:=a) ai) rfl ?_);intro ZW o127 CF;replace CF:=bJ.one CF;refine .r (i:=19) hs rfl aD (.some rfl rfl) (aF rfl aj CF) ?_;refine .zw 20 rfl gE ?_;refine .z 21 rfl zm ?_;refine .z 22 rfl zm ?_;first|(refine .ixv 23 rfl hs ae ak ?_;intro b132 o132 abt)|refine .z 23 rfl (zix ae ak) ?_
         first|refine .load (i:=24) hs rfl aD (.some rfl rfl) rfl aj ?_ (by repeat (first|exact .here|assumption|exact Mem.row ai ai|refine .there ?_|refine Mem.l6 ?_)) (by first|rfl|exact dJ ai|exact iO dv ai ai|exact gd gM)|refine .r (i:=24) hs rfl aD (.some rfl rfl) (aF rfl aj dv) ?_
         refine .zw 25 rfl gV ?_;refine .z 26 rfl zpT ?_;refine .DT hs ?_;exact nT ⟨_,aM,by
          intro hp;first
           |(cases hp;done)
           |exact ⟨CH,of_decide_eq_true hp⟩,by
          intro hp;first
           |(cases hp;done)
           |exact .inl CH
           |exact .inr (of_decide_eq_false hp),hs⟩
        ·refine .F 9 rfl (.F 10 rfl (.F 11 rfl (.F 12 rfl (.F 13 rfl (.F 14 rfl ?_)))));refine .F 15 rfl (.F 16 rfl (.F 17 rfl (.F 18 rfl (.F 19 rfl (.F 20 rfl (.F 21 rfl (.F 22 rfl (.F 23 rfl (.F 24 rfl (.F 25 rfl (.zw 26 rfl zpF (.DT hs ?_))))))))))));exact nT ⟨_,aM,by
          intro hp;first
           |(cases hp;done)
           |exact ⟨CH,of_decide_eq_true hp⟩,by
          intro hp;first
           |(cases hp;done)
           |exact .inl CH
           |exact .inr (of_decide_eq_false hp),hs⟩
       ·rintro fs w ⟨p,gP,zQ,uO,hs⟩;refine WE.sub ?_ gP;refine (.cond rfl (fun A7=>?_) (fun A7=>?_))
        ·refine .seq (.draw mix rfl hs fun w hs=>?_);obtain ⟨JG,fD⟩:=zQ A7;obtain ⟨x,hx,e1,e2⟩:=hC.pos hb ha JG;have e3:gi (gr Ms b) a=x.c:=by
          have h2:=(hT.ok x hx).2.2.2.1;rw [e1,e2] at h2;exact h2
         have hxc:=OV x hx;have Ta:a≠b:=fun e=>(hT.ok x hx).2.2.1 (by rw [e1,e2,e])
         have yv:¬x.back.l<0:=by have:=(hT.at hx).2;show ¬x.l<0;omega
         have e4:x.back.f=a:=e2;have e5:x.back.t=b:=e1;have LC:pq es x.back=[I (a:Int),.bool true]:=by
          unfold pq;rw [if_neg yv,e4];simp [(hT.xU hx).2]
         have GV:tB (lj es s'.by_) (b*2) [I (a:Int),Value.bool true]=lj es (s'.by_.set b x.back):=by rw [←LC];exact Dk (by have:=uP.lb;omega) x.back
         have XD:s'.rlx x.back=⟨s'.cost.set b (gi s'.cost a - gi (gr Ms b) a),s'.by_.set b x.back⟩:=by
          unfold BS.rlx;rw [e4,e5,e3];rfl
         have LX:s'.can x.back:=by
          unfold BS.can;rw [e4,e5];show gi s'.cost a+ -x.c<_;rw [←e3];exact fD
         have Ef:x.back∈dN es ts:=(px hT hC).2 (.inr ⟨x,hx,by rw [e1,e2];exact JG,rfl⟩);have Ei:=uP.lb;refine .zw 0 rfl zm ?_;refine .z 1 rfl zm ?_;refine .z 2 rfl zm ?_;refine .z 3 rfl zm ?_;first|(refine .ixv 4 rfl hs ae ak ?_;intro ZR o140 abr)|refine .z 4 rfl (zix ae ak) ?_
         first|refine .load (i:=5) hs rfl aD .none rfl aj ?_ (by repeat (first|exact .here|assumption|exact Mem.row ai ai|refine .there ?_|refine Mem.l6 ?_)) (by first|rfl|exact dJ ai|exact iO dv ai ai|exact gd gM)|refine .r (i:=5) hs rfl aD .none (aF rfl aj dv) ?_
         refine .zw 6 rfl zm ?_;refine .z 7 rfl zm ?_;refine .ixT (i:=8) hs rfl aD .none hM rfl rfl aC aO hb rfl ?_;intro b144 o144 a144 c144 Fu Vd;refine .r (i:=9) hs rfl aD .none (aF rfl an Fu) ?_;refine .zw 10 rfl zm (.ixX (enc:=fun x=>[I x]) (i:=11) hs rfl aD .none Vd rfl rfl ae ak (bG (l:=_) (i:=a) ai) rfl ?_);intro b147 o147 Ma;replace Ma:=bJ.one Ma;refine .r (i:=12) hs rfl aD .none (aF rfl aj Ma) ?_;refine .zw 13 rfl gE ?_;first|(refine .ixv 14 rfl hs ae ak ?_;intro ZQ o150 IC)|refine .z 14 rfl (zix ae ak) ?_
         refine .ET 15 hs ?_;refine .store hs rfl rfl ak ?_;intro w hs;refine .go (.DT hs (.af (.z zm (.z zm (.z zm (.z (zbd [_,_] ke) ?_))))));first|(refine .ixw hs fh fP ?_;intro ZP o155 Qb)|refine .z (nH fh fP) ?_
         refine .o (.aJ (vs:=[I (a:Int),Value.bool true]) hs rfl rfl fP ?_ dC (by rw [qp];simp<;>omega) GV);intro w hs;refine .nil (.region (.zn zg (nB (nT ?_))));have hR:=uP.BP (Dn':=Ep a (b+1)) hg Ef (by rw [e4];exact Ko) LX;have hL:=uP.less hg Ef (by rw [e4];exact Ko) LX;rw [XD] at hR hL;exact .mk ⟨true,_,rfl,hR,⟨ai,fun _=>by omega⟩,by dsimp only;rw [fi ai,if_neg Ta];exact Ko,hs⟩
        ·refine .skip (nB (nT ?_));exact .mk ⟨ag',s',rfl,uP.noB hT hC (fun x hx e1 e2 JG hc=>by
          have h2:=(hT.ok x hx).2.2.2.1;rw [e1,e2] at h2
          rcases uO A7 with h|h
          ·exact h JG
          ·exact h (by rw [h2];exact hc.2)),hW,Ko,hs⟩
     ·rintro fr w ⟨ag',s',rfl,uP,hW,-,hs⟩;exact nB (nT (.mk ⟨ag',s',rfl,uP.row hg,hW,hs⟩))
   ·rintro fr w ⟨ag',s',rfl,uP,hW,hs⟩;refine nB (nT ?_);exact ⟨(ag',s'),aM,⟨uP.all hg,hs⟩,by
     subst wb;dsimp only
     cases ag' with
     |true=>have:=hW.2 rfl;simp only [if_true];omega
     |false=>have:=hW.1;simp;omega⟩
  ·refine .exit (xT (xT (xB (nT (.af (.z zm (.z zm (.z zg (.zn zg (.ret (Fin.iz results308 rfl rfl ?_)))))))))));subst wb;obtain ⟨H2,g1,g2,hs⟩:=dj.dn (m:=2) (v:= .slice (some ⟨pX,0,none⟩) Ms.length Ms.length) (cs:=s.by_.map (pq es)) (en:= .blk pX (lj es s.by_)) (.full (by show (lj es s.by_).length=_;rw [qp,hV.lb])) (fun c hc=>by simp only [List.mem_map] at hc;obtain ⟨x,_,rfl⟩:=hc;exact yq es x) ai (by rw [List.length_map,hV.lb];omega) hs .here;obtain ⟨H3,g3,g4,hs⟩:=dj.eI (v:= .slice (some ⟨nD,0,none⟩) Ms.length Ms.length) (xs:=s.cost) (.full (by simp [hV.lc])) (by rw [hV.lc];omega) hs .here;exact ⟨H3,_,_,s,g1.trans g3,rfl,g4,RS.mono g2 g3,hV,hs⟩
set_option maxHeartbeats 8000000 in
theorem yY{w:World}{n:Nat}{es:List Arc}(hs:St H w σ)(hM:RT H vm Ms)(Gk:Sq (n+1) Ms)(hw:RI H vw ws)(hl:ws.length=n+1)(hn:n+1≤65)(hz:bU ws (n+1)≤FF)
  (hT:Tab (n+1) (gt Ms) es) (S6:∃p,jU es p) (G2:∀x∈es,-1400000≤x.c∧x.c≤1400000) (zR:∀m,Er es (pZ ws (n+1)) (n+1) m→-BB≤m∧m≤BB):
  ab8 301 [vm,vw] w fun u w'=>∃H1 v b,HLe H H1∧u= .tuple #[I v,.bool b]∧((b=true∧Er es (pZ ws (n+1)) (n+1) v)∨(b=false∧pU es (pZ ws (n+1)) (n+1)))∧St H1 w' σ:=by
 obtain ⟨am,cm,rfl⟩:=hM.shape;have Rr:Ms.length=n+1:=Gk.1;rw [Rr] at hM ⊢;have zd:=hT.SP;have abV:Pw es (n+1):=fun x hx=>by
  have h1:=hT.ok x hx;have h2:=(hT.at hx).2;have h3:=G2 x hx;exact ⟨h1.1,h1.2.1,h3.1,h3.2,ai,h1.2.2.1⟩
 have ib:∀x∈es,x.f<n+1∧x.t<n+1:=fun x hx=>by have:=abV x hx;omega
 have Xv:=Kv ws (n:=n+1) ai;have Zw:FF=3600000000000:=rfl;have hBB:BB=4608000000000000000:=rfl;have pJ:free=1000000000:=rfl;refine Cl.o func301 ntmps301 ag2 ?_;refine .af (.z zg (.zn zg (.af (.z zm (.o (.call call307 rfl (u9 hs hw hl ai hz) ?_))))));rintro _ w ⟨wV,cap,sp,lf0,rfl,Ur,Uq,hs⟩;refine .zn zg (.af (.z zm (.z (dk aC) (.o (.Q6 (n+1) hs rfl rfl aC typeInfo34 rfl aO ir ai fun uQ w hs=>?_)))));refine .zn zg (.seq (.af (.z zm (.z (dk aC) (.zn zm (.for (N:=n+1) (J:=fun k fr w=>fr=[(7,.slice (some ⟨uQ,0,none⟩) (n+1) (n+1)),(0,.slice am (n+1) cm),(6,.slice (some ⟨wV,0,none⟩) (n+1) cap)]∧∃bs:List Nat,bs.length=k∧St H w (.blk uQ (bs.map (ptr (n+1))++List.replicate (n+1 - k) (.slice none 0 0))::(lA bs (Gy (fun _ _=>0) (n+1) k)++(.blk wV (Is lf0++sp)::σ)))) ai ?_ ?_ ?_))))))
 ·exact .mk ⟨rfl,[],rfl,hs⟩
 ·rintro k fr w hk ⟨rfl,bs,B7,hs⟩;refine .block (.af (.z zm (.zn zg (.region (.z zm (.z zm (.z zm (.z (dk aC) (.o (.vO (n+1) hs rfl rfl ae jK rfl ak dA ai fun Qv w hs=>?_))))))))));first|(refine .ixw hs aC aO ?_;intro Po o35 nv)|refine .z (zix aC aO) ?_
  refine .o (.store hs rfl rfl aO ?_ dC (by simp [B7];omega) (K5 B7 hk));intro w hs;refine .nil (nB (nT ?_));rw [AJ (fun _=>0) (n+1) 0 (fun _ _=>rfl)] at hs;replace hs:=hs.Ty (by rw [B7,Aj]);rw [←EK (fun _ _=>0)] at hs;exact .mk ⟨rfl,bs++[Qv],by simp [B7],hs⟩
 ·rintro fr w ⟨rfl,bs,B7,hs⟩;rw [Nat.sub_self,List.replicate_zero,List.append_nil] at hs;have JF:=KD (fun _ _=>0) (n+1);have S7:BJ (n+1) es (List.replicate es.length 0) (gt (Gy (fun _ _=>0) (n+1) (n+1))):=by
   have h:=BJ.zero (n+1) hT;exact ⟨h.len,fun x hx=>by rw [h.arc x hx,Gx _ (ib x hx).1 (ib x hx).2],fun a b ha hb _=>Gx _ ha hb⟩
  have Kq:=Cg.start (es:=es) hz Ur Uq S6;refine nT (.block (.loop (fun _:List (List Int)×List Int×List Int=>⟨183,[],[(7,.slice (some ⟨uQ,0,none⟩) (n+1) (n+1)),(0,.slice am (n+1) cm),(6,.slice (some ⟨wV,0,none⟩) (n+1) cap)]⟩) (fun p w=>(Sq (n+1) p.1∧BJ (n+1) es p.2.1 (gt p.1)∧Cg (n+1) es (pZ ws (n+1)) p.2.1 p.2.2)∧∃H1,HLe H H1∧St H1 w (.blk uQ (bs.map (ptr (n+1)))::(lA bs p.1++(.blk wV (Is p.2.2++sp)::σ)))) (fun p=>(rem (n+1) p.2.2).toNat) (Gy (fun _ _=>0) (n+1) (n+1),List.replicate es.length 0,lf0) aM ⟨⟨JF,S7,Kq⟩,H,HLe.refl H,hs⟩ ?_));clear JF S7 Kq Ur Uq hs;rintro ⟨Fs,ts,lf⟩ w ⟨⟨Kh,hC,hI⟩,H1,az,hs⟩;dsimp only at Kh hC hI hs ⊢;obtain ⟨D,hg⟩:=Ib ai hn abV hI.lt.symm hI.fe;have B0:=Kh.1;have wS:=hI.ll;refine .block (.af (.z zm (.z zm (.z zm (.o (.call call308 rfl (yW (need:=lf) (spN:=sp) hs (hM.mono az) Gk .here B7 Kh (fun i hi=> .there (Mem.row ai ai)) (.there (Mem.l6 .here)) wS hT hC hg) ?_))))));rintro _ w ⟨H2,vd,vb,s,bp,rfl,R7,Tc,hV,hs⟩;obtain ⟨ad,cd,rfl⟩:=RI.shape R7;obtain ⟨ab,cb,eb⟩:=Tc.shape;rw [List.length_map] at eb;subst eb;have Gl:=hV.lc;have Ei:=hV.lb;have dO:=az.trans bp;refine .z zm (.z zex (.z zex (.z zg (.zn zg (.af (.zn zg (.af (.zn zg (.seq (.af (.z zm (.z (dk ae) (.zn zm (.for (N:=n+1) (J:=fun k fr w=>∃to left,fr=[(11,I to),(12,.bool left),(44,.slice (some ⟨wV,0,none⟩) (n+1) cap),(7,.slice (some ⟨uQ,0,none⟩) (n+1) (n+1)),(0,.slice am (n+1) cm),(6,.slice (some ⟨wV,0,none⟩) (n+1) cap),(9,.slice ad s.cost.length cd),(10,.slice ab s.by_.length cb)]∧Scan lf s.cost k to left∧St H2 w (.blk uQ (bs.map (ptr (n+1)))::(lA bs Fs++(.blk wV (Is lf++sp)::σ)))) ai ?_ ?_ ?_))))))))))))))
  ·exact .mk ⟨-1,false,rfl,.start lf s.cost,hs⟩
  ·rintro k fr w hk ⟨to,left,rfl,Mv,hs⟩;have tD:=Mv.lo;have hto2:=Mv.som;have vX:k<n+1:=hk;refine .block (.af (.z zm (.q hs (eH (k:=k) rfl rfl ae ak rfl hk) (.q hs (eQ rfl aj (hm:= .there (Mem.l6 .here)) (hv:=sI (bG (l:=lf) (i:=k) ai) sp)) ?_))));refine .z zg (.zn zg (.af (.z zm (.z zm (.bif (t':=52) rfl (fun RZ=>?_) (fun RZ=>?_))))))
   ·refine .Fs 2 1 false (.z zpT (.zn zg (WE.sub (t:=⟨183,[],[(12,.bool (left||decide (0<gi lf k))),(13,I (k:Int)),(14,I (gi lf k)),(11,I to),(46,I (k:Int)),(45,I ((n+1:Nat):Int)),(44,.slice (some ⟨wV,0,none⟩) (n+1) cap),(7,.slice (some ⟨uQ,0,none⟩) (n+1) (n+1)),(0,.slice am (n+1) cm),(6,.slice (some ⟨wV,0,none⟩) (n+1) cap),(9,.slice ad s.cost.length cd),(10,.slice ab s.by_.length cb)]⟩) ?_ (by first|exact .Vu rfl (by simp_all) aM|repeat (first|exact .nil rfl rfl|refine .cons rfl ?_)))));refine .cut (fun fs w=>∃p,lr fs ⟨183,[],[(79,.bool p),(12,.bool (left||decide (0<gi lf k))),(13,I (k:Int)),(11,I to),(46,I (k:Int)),(45,I ((n+1:Nat):Int)),(44,.slice (some ⟨wV,0,none⟩) (n+1) cap),(7,.slice (some ⟨uQ,0,none⟩) (n+1) (n+1)),(0,.slice am (n+1) cm),(6,.slice (some ⟨wV,0,none⟩) (n+1) cap),(9,.slice ad s.cost.length cd),(10,.slice ab s.by_.length cb)]⟩∧(p=true→0<gi lf k∧gi s.cost k≠free)∧(p=false→¬0<gi lf k∨gi s.cost k=free∨0≤to)∧St H2 w (.blk uQ (bs.map (ptr (n+1)))::(lA bs Fs++(.blk wV (Is lf++sp)::σ)))) ?_ ?_
    ·refine .draw mix rfl hs fun w hs=>?_
     refine .zw 0 rfl zm ?_;refine .z 1 rfl ld ?_;refine .z 2 rfl zm ?_;refine .ie (t':=58) rfl (fun zj=>?_) (fun zj=>?_)
     ·refine .zw 3 rfl zm ?_;refine .z 4 rfl zm ?_;refine .ixX (enc:=fun x=>[I x]) (i:=5) hs rfl aD (.some rfl rfl) R7 rfl rfl ae ak (bG (l:=s.cost) (i:=k) ai) rfl ?_;intro Qu o61 qh;replace qh:=bJ.one qh;refine .r (i:=6) hs rfl aD (.some rfl rfl) (aF rfl aj qh) ?_;refine .zw 7 rfl fU ?_;refine .z 8 rfl zpT ?_;refine .z 9 rfl zm ?_;refine .F1 (t':=65) rfl (fun JQ=>?_) (fun JQ=>?_)
      ·refine .zw 10 rfl zm ?_;refine .z 11 rfl gV ?_;refine .z 12 rfl zm ?_;refine .ie (t':=68) rfl (fun Ml=>?_) (fun Ml=>?_)
       ·refine .F 13 rfl (.F 14 rfl (.F 15 rfl (.F 16 rfl (.F 17 rfl (.F 18 rfl (.F 19 rfl (.F 20 rfl (.F 21 rfl (.zw 22 rfl zpT ?_)))))))));refine .z 23 rfl zpT ?_;refine .DT hs ?_;exact nT ⟨_,aM,by
         intro hp;first
          |(cases hp;done)
          |exact ⟨by assumption,by assumption⟩,by
         intro hp;first
          |(cases hp;done)
          |exact .inl dv
          |exact .inr (.inl gM)
          |exact .inr (.inr ai),hs⟩
       ·refine .zw 13 rfl zm ?_;refine .z 14 rfl zm ?_;refine .ixX (enc:=fun x=>[I x]) (i:=15) hs rfl aD (.some rfl rfl) R7 rfl rfl ae ak (bG (l:=s.cost) (i:=k) ai) rfl ?_;intro VD o71 vZ;replace vZ:=bJ.one vZ;refine .r (i:=16) hs rfl aD (.some rfl rfl) (aF rfl aj vZ) ?_;refine .zw 17 rfl zm ?_;refine .z 18 rfl zm ?_;refine .ixX (enc:=fun x=>[I x]) (i:=19) hs rfl aD (.some rfl rfl) R7 rfl rfl ae ak (bG (l:=s.cost) (i:=to.toNat) ai) ai ?_;intro ZH o75 DK;replace DK:=bJ.one DK;refine .r (i:=20) hs rfl aD (.some rfl rfl) (aF rfl aj DK) ?_;refine .zw 21 rfl gV ?_;refine .z 22 rfl zpF ?_;refine .z 23 rfl zpT ?_;refine .DT hs ?_;exact nT ⟨_,aM,by
         intro hp;first
          |(cases hp;done)
          |exact ⟨by assumption,by assumption⟩,by
         intro hp;first
          |(cases hp;done)
          |exact .inl dv
          |exact .inr (.inl gM)
          |exact .inr (.inr ai),hs⟩
      ·refine .F 10 rfl (.F 11 rfl ?_);refine .F 12 rfl (.F 13 rfl (.F 14 rfl (.F 15 rfl (.F 16 rfl (.F 17 rfl (.F 18 rfl (.F 19 rfl (.F 20 rfl (.F 21 rfl (.F 22 rfl (.zw 23 rfl zpF (.DT hs ?_))))))))))));exact nT ⟨_,aM,by
        intro hp;first
         |(cases hp;done)
         |exact ⟨by assumption,by assumption⟩,by
        intro hp;first
         |(cases hp;done)
         |exact .inl dv
         |exact .inr (.inl gM)
         |exact .inr (.inr ai),hs⟩
     ·refine .F 3 rfl (.F 4 rfl (.F 5 rfl (.F 6 rfl (.F 7 rfl (.zw 8 rfl zpF ?_)))));refine .z 9 rfl zm ?_;refine .F 10 rfl (.F 11 rfl ?_);refine .F 12 rfl (.F 13 rfl (.F 14 rfl (.F 15 rfl (.F 16 rfl (.F 17 rfl (.F 18 rfl (.F 19 rfl (.F 20 rfl (.F 21 rfl (.F 22 rfl (.zw 23 rfl zpF (.DT hs ?_))))))))))));exact nT ⟨_,aM,by
       intro hp;first
        |(cases hp;done)
        |exact ⟨by assumption,by assumption⟩,by
       intro hp;first
        |(cases hp;done)
        |exact .inl dv
        |exact .inr (.inl gM)
        |exact .inr (.inr ai),hs⟩
    ·rintro fs w ⟨p,gP,zQ,uO,hs⟩;refine WE.sub ?_ gP;refine (.cond rfl (fun vY=>?_) (fun vY=>?_))
     ·refine .region (.z zm (.zn zg (nB (nT ?_))));obtain ⟨g1,g2⟩:=zQ vY;exact .mk ⟨(k:Int),_,rfl,Mv.take g1 g2,hs⟩
     ·exact .skip (nB (nT (.mk ⟨to,_,rfl,Mv.skip (uO vY),hs⟩)))
   ·refine .T (.z zm (.T (.z ld (.z zpF (.zn zg (WE.sub (t:=⟨183,[],[(12,.bool (left||decide (0<gi lf k))),(13,I (k:Int)),(14,I (gi lf k)),(11,I to),(46,I (k:Int)),(45,I ((n+1:Nat):Int)),(44,.slice (some ⟨wV,0,none⟩) (n+1) cap),(7,.slice (some ⟨uQ,0,none⟩) (n+1) (n+1)),(0,.slice am (n+1) cm),(6,.slice (some ⟨wV,0,none⟩) (n+1) cap),(9,.slice ad s.cost.length cd),(10,.slice ab s.by_.length cb)]⟩) ?_ (by first|exact .Vu rfl (by simp_all) aM|repeat (first|exact .nil rfl rfl|refine .cons rfl ?_))))))));refine .cut (fun fs w=>∃p,lr fs ⟨183,[],[(79,.bool p),(12,.bool (left||decide (0<gi lf k))),(13,I (k:Int)),(11,I to),(46,I (k:Int)),(45,I ((n+1:Nat):Int)),(44,.slice (some ⟨wV,0,none⟩) (n+1) cap),(7,.slice (some ⟨uQ,0,none⟩) (n+1) (n+1)),(0,.slice am (n+1) cm),(6,.slice (some ⟨wV,0,none⟩) (n+1) cap),(9,.slice ad s.cost.length cd),(10,.slice ab s.by_.length cb)]⟩∧(p=true→0<gi lf k∧gi s.cost k≠free)∧(p=false→¬0<gi lf k∨gi s.cost k=free∨0≤to)∧St H2 w (.blk uQ (bs.map (ptr (n+1)))::(lA bs Fs++(.blk wV (Is lf++sp)::σ)))) ?_ ?_
    ·refine .draw mix rfl hs fun w hs=>?_
     refine .zw 0 rfl zm ?_;refine .z 1 rfl ld ?_;refine .z 2 rfl zm ?_;refine .ie (t':=58) rfl (fun zj=>?_) (fun zj=>?_)
     ·refine .zw 3 rfl zm ?_;refine .z 4 rfl zm ?_;refine .ixX (enc:=fun x=>[I x]) (i:=5) hs rfl aD (.some rfl rfl) R7 rfl rfl ae ak (bG (l:=s.cost) (i:=k) ai) rfl ?_;intro Qu o61 qh;replace qh:=bJ.one qh;refine .r (i:=6) hs rfl aD (.some rfl rfl) (aF rfl aj qh) ?_;refine .zw 7 rfl fU ?_;refine .z 8 rfl zpT ?_;refine .z 9 rfl zm ?_;refine .F1 (t':=65) rfl (fun JQ=>?_) (fun JQ=>?_)
      ·refine .zw 10 rfl zm ?_;refine .z 11 rfl gV ?_;refine .z 12 rfl zm ?_;refine .ie (t':=68) rfl (fun Ml=>?_) (fun Ml=>?_)
       ·refine .F 13 rfl (.F 14 rfl (.F 15 rfl (.F 16 rfl (.F 17 rfl (.F 18 rfl (.F 19 rfl (.F 20 rfl (.F 21 rfl (.zw 22 rfl zpT ?_)))))))));refine .z 23 rfl zpT ?_;refine .DT hs ?_;exact nT ⟨_,aM,by
         intro hp;first
          |(cases hp;done)
          |exact ⟨by assumption,by assumption⟩,by
         intro hp;first
          |(cases hp;done)
          |exact .inl dv
          |exact .inr (.inl gM)
          |exact .inr (.inr ai),hs⟩
       ·refine .zw 13 rfl zm ?_;refine .z 14 rfl zm ?_;refine .ixX (enc:=fun x=>[I x]) (i:=15) hs rfl aD (.some rfl rfl) R7 rfl rfl ae ak (bG (l:=s.cost) (i:=k) ai) rfl ?_;intro VD o71 vZ;replace vZ:=bJ.one vZ;refine .r (i:=16) hs rfl aD (.some rfl rfl) (aF rfl aj vZ) ?_;refine .zw 17 rfl zm ?_;refine .z 18 rfl zm ?_;refine .ixX (enc:=fun x=>[I x]) (i:=19) hs rfl aD (.some rfl rfl) R7 rfl rfl ae ak (bG (l:=s.cost) (i:=to.toNat) ai) ai ?_;intro ZH o75 DK;replace DK:=bJ.one DK;refine .r (i:=20) hs rfl aD (.some rfl rfl) (aF rfl aj DK) ?_;refine .zw 21 rfl gV ?_;refine .z 22 rfl zpF ?_;refine .z 23 rfl zpT ?_;refine .DT hs ?_;exact nT ⟨_,aM,by
         intro hp;first
          |(cases hp;done)
          |exact ⟨by assumption,by assumption⟩,by
         intro hp;first
          |(cases hp;done)
          |exact .inl dv
          |exact .inr (.inl gM)
          |exact .inr (.inr ai),hs⟩
      ·refine .F 10 rfl (.F 11 rfl ?_);refine .F 12 rfl (.F 13 rfl (.F 14 rfl (.F 15 rfl (.F 16 rfl (.F 17 rfl (.F 18 rfl (.F 19 rfl (.F 20 rfl (.F 21 rfl (.F 22 rfl (.zw 23 rfl zpF (.DT hs ?_))))))))))));exact nT ⟨_,aM,by
        intro hp;first
         |(cases hp;done)
         |exact ⟨by assumption,by assumption⟩,by
        intro hp;first
         |(cases hp;done)
         |exact .inl dv
         |exact .inr (.inl gM)
         |exact .inr (.inr ai),hs⟩
     ·refine .F 3 rfl (.F 4 rfl (.F 5 rfl (.F 6 rfl (.F 7 rfl (.zw 8 rfl zpF ?_)))));refine .z 9 rfl zm ?_;refine .F 10 rfl (.F 11 rfl ?_);refine .F 12 rfl (.F 13 rfl (.F 14 rfl (.F 15 rfl (.F 16 rfl (.F 17 rfl (.F 18 rfl (.F 19 rfl (.F 20 rfl (.F 21 rfl (.F 22 rfl (.zw 23 rfl zpF (.DT hs ?_))))))))))));exact nT ⟨_,aM,by
       intro hp;first
        |(cases hp;done)
        |exact ⟨by assumption,by assumption⟩,by
       intro hp;first
        |(cases hp;done)
        |exact .inl dv
        |exact .inr (.inl gM)
        |exact .inr (.inr ai),hs⟩
    ·rintro fs w ⟨p,gP,zQ,uO,hs⟩;refine WE.sub ?_ gP;refine (.cond rfl (fun vY=>?_) (fun vY=>?_))
     ·refine .region (.z zm (.zn zg (nB (nT ?_))));obtain ⟨g1,g2⟩:=zQ vY;exact .mk ⟨(k:Int),_,rfl,Mv.take g1 g2,hs⟩
     ·exact .skip (nB (nT (.mk ⟨to,_,rfl,Mv.skip (uO vY),hs⟩)))
  ·rintro fr w ⟨to,left,rfl,Mv,hs⟩;refine nT (.seq (.af (.z zm (.zn gV (.bA rfl (fun YD=>?_) (fun YD=>?_))))))
   ·refine .af (.z zm (.z zm (.o (.call call309 rfl (AF hs (hM.mono dO) Gk ai .here B7 Kh (fun i hi=> .there (Mem.row ai ai))) ?_))));rintro _ w ⟨rfl,hs⟩;refine .z zm (.z fE (.z zg (.zn zg (.ret (rT (rB (rT (rB (Fin.iz results301 rfl rfl ?_)))))))));rw [←O4 hT hC hI.nn]
    cases left with
    |false=>
     have fa:∀v<n+1,gi lf v≤0:=fun v hv=>Int.not_lt.1 fun h=>by have:=Mv.left_.2 ⟨v,hv,h⟩;cases this
     have aU:=hI.ok ib Xv fa;obtain ⟨q,hqf⟩:=aU.fe;have hO:=(IU ib aU.lt (fun i hi=>(aU.nn i hi).1) aU.full hqf).1;have hb:=zR _ hO;rw [lI ai];exact ⟨H2,_,true,dO,rfl,.inl ⟨rfl,hO⟩,hs.tail.l6.tail⟩
    |true=>
     obtain ⟨v,hv,hp⟩:=Mv.left_.1 rfl;have hf:=Mv.non ai v hv hp;have hO:=hI.open ib (R:=fun v=>gi s.cost v<free) (fun v hv hl=>by have:=hV.src v hv hl;omega) (hV.closed hg) hv (by rw [hf];omega) hp;exact ⟨H2,_,false,dO,rfl,.inr ⟨rfl,hO⟩,hs.tail.l6.tail⟩
   ·refine .skip (nT (.af ?_));obtain ⟨t,rfl⟩:=Int.eq_ofNat_of_zero_le (show 0≤to by omega);obtain ⟨ht,aaJ,htf⟩:=Mv.som ai;rw [Int.toNat_natCast] at ht aaJ htf;have zb:gi s.cost t<free:=by have:=hV.top t ht;omega
    obtain ⟨kk,cc,u,hB,hu,BZ,Gm,uw,Rc⟩:=hV.back hg ht zb aaJ;have hW:=Rc _ rfl;have aaM:=hI.sg;refine .z zm (.z zm (.q hs (eH (k:=t) rfl rfl ae ak rfl ht) (.q hs (eQ rfl aj (hm:= .there (Mem.l6 .here)) (hv:=sI (bG (l:=lf) (i:=t) ai) sp)) ?_)));refine .zn zg (.af (.z zm (.zn zg (.seq (.block (.loop (fun p:Nat×Nat=>⟨183,[],[(16,I (p.2:Int)),(15,I (least es ts (gi lf t) (kU s.by_ t p.1))),(11,I (t:Int)),(7,.slice (some ⟨uQ,0,none⟩) (n+1) (n+1)),(0,.slice am (n+1) cm),(6,.slice (some ⟨wV,0,none⟩) (n+1) cap),(9,.slice ad s.cost.length cd),(10,.slice ab s.by_.length cb)]⟩) (fun p w=>AtW s.by_ t kk u p.1 p.2∧(p.2<n+1∧gi s.cost p.2<free)∧St H2 w (.blk uQ (bs.map (ptr (n+1)))::(lA bs Fs++(.blk wV (Is lf++sp)::σ)))) (fun p=>kk - p.1) (0,t) aM ⟨.start hB,⟨ht,zb⟩,hs⟩ ?_))))));rintro ⟨i,v⟩ w ⟨hA,⟨hv,aaF⟩,hs⟩;dsimp only at hA hv aaF ⊢;have YJ:=hV.by1 v hv aaF;refine .cut (fun fs w=>lr fs ⟨183,[],[(16,I (v:Int)),(15,I (least es ts (gi lf t) (kU s.by_ t i))),(11,I (t:Int)),(7,.slice (some ⟨uQ,0,none⟩) (n+1) (n+1)),(0,.slice am (n+1) cm),(6,.slice (some ⟨wV,0,none⟩) (n+1) cap),(9,.slice ad s.cost.length cd),(10,.slice ab s.by_.length cb)]⟩∧0≤(ga s.by_ v).l∧St H2 w (.blk uQ (bs.map (ptr (n+1)))::(lA bs Fs++(.blk wV (Is lf++sp)::σ)))) ?_ ?_
    ·refine .af (.z zm (.z zm (.q hs (eH (k:=v) rfl rfl ae ak rfl hv) (.q hs (eQ rfl aj (hm:= .there (Mem.l6 .here)) (hv:=sI (bG (l:=lf) (i:=v) ai) sp)) ?_))));refine .z tN (.z zm (.ie (t':=99) rfl (fun YL=>?_) (fun YL=>?_)))
     ·refine .Fs 6 5 false (.zn zpT (.cT (.skip (nT ?_))));exact ⟨aM,by
       rcases YJ with ⟨_,h,_⟩|h
       ·omega
       ·exact h.1,hs⟩
     ·refine .T (.z zm (.T (.z zm (.T (.ixX (enc:=pq es) hs Tc rfl rfl fh fP (Be (l:=s.by_) (i:=v) ai) rfl ?_)))));intro b102 o102 Qh;rw [uY] at Qh;refine .T (.z (zfa dP) (.T (.q hs (aF rfl aj (Qh.get 0 rfl)) (.T (.z tN (.zn zpF (.bA rfl (fun tF=>?_) (fun tF=>?_))))))))
      ·exact .skip (nT ⟨aM,NI tF,hs⟩)
      ·refine .exit (xT (xT (xB (nT (.af ?_)))));obtain ⟨ei,ev⟩:=hA.stop (KF tF);subst ei;subst ev;obtain ⟨m0,m1,m2,m3⟩:=zM hI.lt.symm zd hW;have aaK:=aaM v hv;have Iz:=aaM t ht;have hmu:min (least es ts (gi lf t) (kU s.by_ t i)) (-gi lf v)=vM es ts lf (kU s.by_ t i).reverse v t:=by
        unfold vM;rw [Lq,←E2,Int.min_comm]
       have hsend:=hI.send zd hW (by rw [List.length_reverse,jX];omega);have Fh:∀x∈kU s.by_ t i,x∈dN es ts:=fun x hx=>hW.mem x (List.mem_reverse.2 hx)
       rw [Jr (fun x hx=>(ml hI.lt.symm zd (Fh x hx)).2.1)] at hsend;generalize hm:vM es ts lf (kU s.by_ t i).reverse v t=m at*;have hvt:v≠t:=fun e=>by have:=hW.lu;rw [e] at this;omega
       refine .z zm (.z zm (.z zm (.q hs (eH (k:=v) rfl rfl ae ak rfl hv) (.q hs (eQ rfl aj (hm:= .there (Mem.l6 .here)) (hv:=sI (bG (l:=lf) (i:=v) ai) sp)) ?_))));refine .z BM (.z EE ?_);rw [hmu];refine .zn zg (.seq (.af (.z zm (.zn zg (.block (.loop (fun p:Nat×Nat×List (List Int)=>⟨183,[],[(18,I (p.2.1:Int)),(16,I (v:Int)),(15,I m),(11,I (t:Int)),(7,.slice (some ⟨uQ,0,none⟩) (n+1) (n+1)),(0,.slice am (n+1) cm),(6,.slice (some ⟨wV,0,none⟩) (n+1) cap),(9,.slice ad s.cost.length cd),(10,.slice ab s.by_.length cb)]⟩) (fun p w=>AtW s.by_ t i v p.1 p.2.1∧(p.2.1<n+1∧gi s.cost p.2.1<free)∧(Sq (n+1) p.2.2∧BJ (n+1) es (gO es m ts (kU s.by_ t p.1)) (gt p.2.2))∧St H2 w (.blk uQ (bs.map (ptr (n+1)))::(lA bs p.2.2++(.blk wV (Is lf++sp)::σ)))) (fun p=>i - p.1) (0,t,Fs) aM ⟨.start hB,⟨ht,zb⟩,⟨Kh,hC⟩,hs⟩ ?_))))));clear hA YJ;rintro ⟨j,y,Fs'⟩ w ⟨hA,⟨hy,aaA⟩,⟨DI,Th⟩,hs⟩;dsimp only at hA hy aaA DI Th hs ⊢;have hfl':=DI.1;refine .seq (.af (.z zm (.z zm (.zn fU (.dK rfl (fun A7=>?_) (fun A7=>?_))))))
       ·refine .skip (nT (.seq (.block (.af ?_))));have Kl:=hA.ne ai;obtain ⟨Yf,Vn,T6⟩:=hA.next Kl hu;obtain ⟨Ef,Gh,T4⟩:ga s.by_ y∈dN es ts∧(ga s.by_ y).t=y∧gi s.cost (ga s.by_ y).f<free:=by
         rcases hV.by1 y hy aaA with ⟨h,_⟩|⟨_,h1,h2,h3,_⟩
         ·omega
         ·exact ⟨h1,h2,h3⟩
        have Iw:=(hg.ok _ Ef).1;have PV:=Ap Kl;have Ox:(ga s.by_ y).l.toNat<ts.length:=(ml hI.lt.symm zd Ef).2.1;have hpb:=EW (es:=es) (ts:=ts) (p:=kU s.by_ t j) (m:=m) ai ai (by rw [jX];omega) (fun x hx=>by
         have h1:=rC (A:=fun v=>v<n+1∧gi s.cost v<free) (B:=fun x=>x∈dN es ts) (fun v hv hl=>by
          rcases hV.by1 v hv.1 hv.2 with ⟨h,_⟩|⟨_,h1,h2,h3,_⟩
          ·omega
          ·exact ⟨h1,(hg.ok _ h1).1,h3⟩) hA.bk.choose_spec ⟨ht,zb⟩ x hx
         exact (ml hI.lt.symm zd h1).2.1) (ga s.by_ y).l.toNat
        have BY:=hI.nn (ga s.by_ y).l.toNat (by rw [←hI.lt];exact Ox);have SU:=hI.tb (ga s.by_ y).l.toNat (by rw [←hI.lt];exact Ox);have hrm:0≤rem (n+1) lf:=dB fun v _=>by omega
        generalize RB:ga s.by_ y=x at*;refine .z zm (.z zm (.ixX (enc:=pq es) hs Tc rfl rfl fh fP (Be (l:=s.by_) (i:=y) ai) rfl ?_));intro b143 o143 Qc;rw [RB,uY] at Qc;refine .q hs (cj (vs:=[I (Aq x),.bool (BO es x)]) rfl isAgg337 fP Qc) (.o (.alloc hs zeroValue337 rfl fun pX w hs=>?_));refine .o (.aJ (vs:=[I (Aq x),.bool (BO es x)]) hs rfl rfl fP fun w hs=>?_);refine .nil (.af (.z (zfa lZ) ?_));first|refine .q hs (eQ rfl Kd (hm:=by repeat (first|exact .here|assumption|exact Mem.row ai ai|refine .there ?_|refine Mem.l6 ?_)) (hv:=by first|rfl|exact dJ ai|exact iO dv ai ai|exact gd gM)) ?_|refine .q hs (aF rfl Kd dv) ?_
        refine .nil (.cond rfl (fun Mb=>?_) (fun Mb=>?_))
        ·refine .draw mix rfl hs fun w hs=>?_
         have Nh:=KG Mb;obtain ⟨G2,z,aaz,Wb⟩:=hC.back hT Ef Nh;have Yi:gt Fs' y x.f=gi (gO es m ts (kU s.by_ t j)) x.l.toNat:=by
          have:=Th.arc z aaz;rw [Wb] at Gh ⊢;rw [←Gh];exact this.symm
         have Rm:=(Th.push hT (y:=x) (.inr ⟨z,aaz,Wb⟩) m).2 Nh;rw [Gh] at Rm;rw [←qa,←T6] at Rm;refine .zw 0 rfl zm ?_;refine .z 1 rfl zm ?_;refine .zw 2 rfl (eH (k:=y) rfl rfl aC aO rfl hy) ?_;first|refine .load (i:=3) hs rfl aD .none rfl an ?_ (by repeat (first|exact .here|assumption|exact Mem.row ai ai|refine .there ?_|refine Mem.l6 ?_)) (by first|rfl|exact dJ ai|exact iO dv ai ai|exact gd gM)|refine .r (i:=3) hs rfl aD .none (aF rfl an dv) ?_
         refine .zw 4 rfl (zfa dP) ?_;first|refine .load (i:=5) hs rfl aD .none rfl aj ?_ (by repeat (first|exact .here|assumption|exact Mem.row ai ai|refine .there ?_|refine Mem.l6 ?_)) (by first|rfl|exact dJ ai|exact iO dv ai ai|exact gd gM)|refine .r (i:=5) hs rfl aD .none (aF rfl aj dv) ?_
         rw [PV] at hs ⊢;refine .zw 6 rfl (eH (k:=x.f) rfl rfl ae ak rfl Iw) ?_;first|refine .load (i:=7) hs rfl aD .none rfl aj ?_ (by repeat (first|exact .here|assumption|exact Mem.row ai ai|refine .there ?_|refine Mem.l6 ?_)) (by first|rfl|exact dJ ai|exact iO dv ai ai|exact gd gM)|refine .r (i:=7) hs rfl aD .none (aF rfl aj dv) ?_
         refine .zw 8 rfl zm ?_;refine .z 9 rfl gE ?_;refine .zw 10 rfl (eH (k:=x.f) rfl rfl ae ak rfl Iw) (.ET 11 hs ?_);refine .store hs rfl rfl ak ?_ (.there (.there (Upd.row _ ai ai))) (Bk (by rw [DI.2 _ hy];exact Iw)) (wN _ _ _);intro w hs;refine .go (.DT hs (nB (nT (.region (.z zm (.z zm (.ixX (enc:=pq es) hs Tc rfl rfl fh fP (Be (l:=s.by_) (i:=y) ai) rfl ?_)))))));intro ZS o138 Fv;rw [RB,uY] at Fv;refine .z (zfa dP) (.q hs (aF rfl aj (Fv.get 0 rfl)) ?_);rw [PV];exact .zn zg (nT ⟨(j+1,x.f,_),aM,⟨Vn,⟨Iw,T4⟩,⟨DI.set hy _,by rw [IJ DI hy Iw];exact Rm⟩,hs.tail⟩,by dsimp only;omega⟩)
        ·refine .region ?_;have Nh:=KH Kl (by simpa using Mb);have aaB:=hC.ZB hT Ef Nh;have Yi:gt Fs' x.f y=gi (gO es m ts (kU s.by_ t j)) x.l.toNat:=by
          have:=Th.arc x aaB;rw [Gh] at this;exact this.symm
         have Rm:=(Th.push hT (y:=x) (.inl aaB) m).1 Nh;rw [Gh] at Rm;rw [←qa,←T6] at Rm;refine .z zm (.z (zfa dP) ?_);first|refine .q hs (eQ rfl aj (hm:=by repeat (first|exact .here|assumption|exact Mem.row ai ai|refine .there ?_|refine Mem.l6 ?_)) (hv:=by first|rfl|exact dJ ai|exact iO dv ai ai|exact gd gM)) ?_|refine .q hs (aF rfl aj dv) ?_
         rw [PV];refine .q hs (eH (k:=x.f) rfl rfl aC aO rfl Iw) ?_;first|refine .q hs (eQ rfl an (hm:=by repeat (first|exact .here|assumption|exact Mem.row ai ai|refine .there ?_|refine Mem.l6 ?_)) (hv:=by first|rfl|exact dJ ai|exact iO dv ai ai|exact gd gM)) ?_|refine .q hs (aF rfl an dv) ?_
         refine .z zm (.q hs (eH (k:=y) rfl rfl ae ak rfl hy) ?_);first|refine .q hs (eQ rfl aj (hm:=by repeat (first|exact .here|assumption|exact Mem.row ai ai|refine .there ?_|refine Mem.l6 ?_)) (hv:=by first|rfl|exact dJ ai|exact iO dv ai ai|exact gd gM)) ?_|refine .q hs (aF rfl aj dv) ?_
         refine .z zm (.z cV (.q hs (eH (k:=y) rfl rfl ae ak rfl hy) (.o (.store hs rfl rfl ak ?_ (.there (.there (Upd.row _ ai ai))) (Bk (by rw [DI.2 _ Iw];exact hy)) (wN _ _ _)))));intro w hs;refine .nil (nB (nT (.region (.z zm (.z zm (.ixX (enc:=pq es) hs Tc rfl rfl fh fP (Be (l:=s.by_) (i:=y) ai) rfl ?_))))));intro ZS o138 Fv;rw [RB,uY] at Fv;refine .z (zfa dP) (.q hs (aF rfl aj (Fv.get 0 rfl)) ?_);rw [PV];exact .zn zg (nT ⟨(j+1,x.f,_),aM,⟨Vn,⟨Iw,T4⟩,⟨DI.set Iw _,by rw [IJ DI Iw hy];exact Rm⟩,hs.tail⟩,by dsimp only;omega⟩)
       ·refine .exit (xT (xT (xB (nT (.af ?_)))));have hyv:y=v:=by omega
        subst hyv;obtain ⟨ej,-⟩:=hA.stop hu;subst ej;refine .z zm (.z zm (.q hs (eH (k:=y) rfl rfl ae ak rfl hv) (.q hs (eQ rfl aj (hm:= .there (Mem.l6 .here)) (hv:=sI (bG (l:=lf) (i:=y) ai) sp)) ?_)));refine .z zm (.z cV (.q hs (eH (k:=y) rfl rfl ae ak rfl hv) (.o (.store hs rfl rfl ak ?_ (.there (Upd.l6 .here)) (by simp;omega) (HZ ai _ sp)))));intro w hs;refine .nil (.region (.z zm (.z zm (.q hs (eH (k:=t) rfl rfl ae ak rfl ht) ?_))));have S4:gi (lf.set y (gi lf y+m)) t=gi lf t:=by rw [fi ai,if_neg (Ne.symm hvt)]
        refine .q hs (eQ rfl aj (hm:= .there (Mem.l6 .here)) (hv:=sI (bG (l:=lf.set y (gi lf y+m)) (i:=t) (by rw [List.length_set];omega)) sp)) ?_;refine .z zm (.z gE (.q hs (eH (k:=t) rfl rfl ae ak rfl ht) (.o (.store hs rfl rfl ak ?_ (.there (Upd.l6 .here)) (by simp;omega) (HZ (by rw [List.length_set];omega) _ sp)))));intro w hs;refine .nil (nB (nT ?_));have hrm:0≤rem (n+1) (E0 lf m y t):=dB fun v _=>by omega
        exact ⟨(Fs',gO es m ts (kU s.by_ t j),E0 lf m y t),aM,⟨⟨DI,Th,hsend.1⟩,H2,dO,hs⟩,by dsimp only;have:=hsend.2;omega⟩
    ·rintro fs w ⟨gP,Kl,hs⟩;refine WE.sub ?_ gP;obtain ⟨Yf,Vn,T6⟩:=hA.next Kl hu;obtain ⟨Ef,Gh,T4⟩:ga s.by_ v∈dN es ts∧(ga s.by_ v).t=v∧gi s.cost (ga s.by_ v).f<free:=by
      rcases YJ with ⟨h,_⟩|⟨_,h1,h2,h3,_⟩
      ·omega
      ·exact ⟨h1,h2,h3⟩
     have Iw:=(hg.ok _ Ef).1;have PV:=Ap Kl;generalize RB:ga s.by_ v=x at*;refine .block (.af (.z zm (.z zm (.ixX (enc:=pq es) hs Tc rfl rfl fh fP (Be (l:=s.by_) (i:=v) ai) rfl ?_))));intro Z3 o109 Fy;rw [RB,uY] at Fy;refine .q hs (cj (vs:=[I (Aq x),.bool (BO es x)]) rfl isAgg337 fP Fy) (.o (.alloc hs zeroValue337 rfl fun J2 w hs=>?_));refine .o (.aJ (vs:=[I (Aq x),.bool (BO es x)]) hs rfl rfl fP fun w hs=>?_);refine .nil (.seq (.af (.z (zfa lZ) ?_)));first|refine .q hs (eQ rfl Kd (hm:=by repeat (first|exact .here|assumption|exact Mem.row ai ai|refine .there ?_|refine Mem.l6 ?_)) (hv:=by first|rfl|exact dJ ai|exact iO dv ai ai|exact gd gM)) ?_|refine .q hs (aF rfl Kd dv) ?_
     refine .nil (.cond rfl (fun Fx=>?_) (fun Fx=>?_))
     ·refine .draw mix rfl hs fun w hs=>?_
      refine .zw 0 rfl zm ?_;refine .z 1 rfl zm ?_;refine .z 2 rfl zm ?_;refine .zw 3 rfl (eH (k:=v) rfl rfl aC aO rfl hv) ?_;first|refine .load (i:=4) hs rfl aD .none rfl an ?_ (by repeat (first|exact .here|assumption|exact Mem.row ai ai|refine .there ?_|refine Mem.l6 ?_)) (by first|rfl|exact dJ ai|exact iO dv ai ai|exact gd gM)|refine .r (i:=4) hs rfl aD .none (aF rfl an dv) ?_
      refine .zw 5 rfl (zfa dP) ?_;first|refine .load (i:=6) hs rfl aD .none rfl aj ?_ (by repeat (first|exact .here|assumption|exact Mem.row ai ai|refine .there ?_|refine Mem.l6 ?_)) (by first|rfl|exact dJ ai|exact iO dv ai ai|exact gd gM)|refine .r (i:=6) hs rfl aD .none (aF rfl aj dv) ?_
      rw [PV] at hs ⊢;refine .zw 7 rfl (eH (k:=x.f) rfl rfl ae ak rfl Iw) ?_;first|refine .load (i:=8) hs rfl aD .none rfl aj ?_ (by repeat (first|exact .here|assumption|exact Mem.row ai ai|refine .there ?_|refine Mem.l6 ?_)) (by first|rfl|exact dJ ai|exact iO dv ai ai|exact gd gM)|refine .r (i:=8) hs rfl aD .none (aF rfl aj dv) ?_
      refine .zw 9 rfl EE ?_;refine .z 10 rfl zg ?_;refine .DT hs (nT (.region (.z (zfa dP) ?_)));first|refine .q hs (eQ rfl aj (hm:=by repeat (first|exact .here|assumption|exact Mem.row ai ai|refine .there ?_|refine Mem.l6 ?_)) (hv:=by first|rfl|exact dJ ai|exact iO dv ai ai|exact gd gM)) ?_|refine .q hs (aF rfl aj dv) ?_
      try rw [PV]
      refine .zn zg (nB (nT ?_));have Nh:=KG Fx;have G2:=(hC.back hT Ef Nh).1;rw [Gh] at G2;exact ⟨(i+1,x.f),.cons rfl (.da rfl (by dsimp only;rw [T6,pG,if_neg Nh,G2]) aM),⟨Vn,⟨Iw,T4⟩,hs.tail⟩,by dsimp only;omega⟩
     ·refine .skip (nT (.region (.z (zfa dP) ?_)));first|refine .q hs (eQ rfl aj (hm:=by repeat (first|exact .here|assumption|exact Mem.row ai ai|refine .there ?_|refine Mem.l6 ?_)) (hv:=by first|rfl|exact dJ ai|exact iO dv ai ai|exact gd gM)) ?_|refine .q hs (aF rfl aj dv) ?_
      try rw [PV]
      refine .zn zg (nB (nT ?_));have Nh:=KH Kl (by simpa using Fx);exact ⟨(i+1,x.f),.cons rfl (.da rfl (by dsimp only;rw [T6,pG,if_pos Nh]) aM),⟨Vn,⟨Iw,T4⟩,hs.tail⟩,by dsimp only;omega⟩
theorem dE{p:Prop}[Decidable p]:(!decide p)=true↔¬p:=by simp
theorem bI{p:Prop}[Decidable p]:(!decide p)=false↔p:=by simp
theorem eO{w:World}(hs:St H w σ):ab8 253 [I a0,I a1,I a2] w fun v w'=>v= .bool (decide (a1≤a0∧a0≤a2))∧St H w' σ:=by
 refine Cl.o func253 ntmps253 ag3 ?_;refine .af (.zn zg (.af (.z zm (.z zm (.z pc (.z zm (.ie (t':=10) rfl (fun pO=>?_) (fun pO=>?_))))))))
 ·exact .T (.z zm (.T (.z zm (.T (.z pc (.z zpT (.zn zg (.ret (Fin.bu results253 rfl ⟨by simp [*],hs.out⟩)))))))))
 ·exact .Fs 3 3 true (.z zpF (.zn zg (.ret (Fin.bu results253 rfl ⟨by simp [*],hs.out⟩))))
theorem rN{w:World}{many:Int}{l:Lim}(hs:St H w σ):ab8 256 [I many,.agg l.c.toArray] w fun v w'=>v=I (if decide (0≤many∧many≤64)&&l.ok many then 0 else 20)∧St H w' σ:=by
 refine Cl.o func256 ntmps256 ag2 ?_;refine .af (.bx hs fun b3 w hs=>?_);refine .zn zg (.seq (.af (.z zm (.o (.call HR rfl (eO hs) ?_)))));rintro _ w ⟨rfl,hs⟩;refine .z fE (.z zm (.bif (t':=8) rfl (fun Qi=>?_) (fun Qi=>?_)))
 ·refine .Fs 5 3 false (.z zpT (.z zm (.Fs 5 10 false (.z zpT (.z zm (.Fs 5 17 false (.z zpT (.z zm (.Fs 4 24 false (.z zpT (.z zm (.Fs 4 30 false (.zn zpT (.cT (.af (.zn zg (.ret (rT (Fin.bu Ex rfl ?_)))))))))))))))))))
  (try simp only [dE] at*)
  (try simp only [bI] at*)
  refine ⟨congrArg I ?_,hs.out⟩;unfold Lim.ok;first
   |(rw [if_pos (by simp only [Bool.and_eq_true,decide_eq_true_eq];omega)];done)
   |(rw [if_neg (by simp only [Bool.and_eq_true,decide_eq_true_eq];omega)];done)
 ·refine .T (.z (zfa eN) (.T (.y hs (zld aj) (.T (.z zm (.T (.o (.call HR rfl (eO hs) ?_))))))));rintro _ w ⟨rfl,hs⟩;refine .T (.z fE (.z zpF (.z zm (.bif (t':=15) rfl (fun Ba=>?_) (fun Ba=>?_)))))
  ·refine .Fs 5 10 false (.z zpT (.z zm (.Fs 5 17 false (.z zpT (.z zm (.Fs 4 24 false (.z zpT (.z zm (.Fs 4 30 false (.zn zpT (.cT (.af (.zn zg (.ret (rT (Fin.bu Ex rfl ?_))))))))))))))))
   (try simp only [dE] at*)
   (try simp only [bI] at*)
   refine ⟨congrArg I ?_,hs.out⟩;unfold Lim.ok;first
    |(rw [if_pos (by simp only [Bool.and_eq_true,decide_eq_true_eq];omega)];done)
    |(rw [if_neg (by simp only [Bool.and_eq_true,decide_eq_true_eq];omega)];done)
  ·refine .T (.z (zfa eZ) (.T (.y hs (zld aj) (.T (.z zm (.T (.o (.call HR rfl (eO hs) ?_))))))));rintro _ w ⟨rfl,hs⟩;refine .T (.z fE (.z zpF (.z zm (.bif (t':=22) rfl (fun R3=>?_) (fun R3=>?_)))))
   ·refine .Fs 5 17 false (.z zpT (.z zm (.Fs 4 24 false (.z zpT (.z zm (.Fs 4 30 false (.zn zpT (.cT (.af (.zn zg (.ret (rT (Fin.bu Ex rfl ?_)))))))))))))
    (try simp only [dE] at*)
    (try simp only [bI] at*)
    refine ⟨congrArg I ?_,hs.out⟩;unfold Lim.ok;first
     |(rw [if_pos (by simp only [Bool.and_eq_true,decide_eq_true_eq];omega)];done)
     |(rw [if_neg (by simp only [Bool.and_eq_true,decide_eq_true_eq];omega)];done)
   ·refine .T (.z (zfa eN) (.T (.y hs (zld aj) (.T (.z (zfa eZ) (.T (.y hs (zld aj) (.T (.z fJ (.z zpF (.z zm (.ie (t':=29) rfl (fun YX=>?_) (fun YX=>?_)))))))))))))
    ·refine .Fs 4 24 false (.z zpT (.z zm (.Fs 4 30 false (.zn zpT (.cT (.af (.zn zg (.ret (rT (Fin.bu Ex rfl ?_))))))))))
     (try simp only [dE] at*)
     (try simp only [bI] at*)
     refine ⟨congrArg I ?_,hs.out⟩;unfold Lim.ok;first
      |(rw [if_pos (by simp only [Bool.and_eq_true,decide_eq_true_eq];omega)];done)
      |(rw [if_neg (by simp only [Bool.and_eq_true,decide_eq_true_eq];omega)];done)
    ·refine .T (.z (zfa fN) (.T (.y hs (zld aj) (.T (.o (.call HR rfl (eO hs) ?_))))));rintro _ w ⟨rfl,hs⟩;refine .T (.z fE (.z zpF (.z zm (.bif (t':=35) rfl (fun G8=>?_) (fun G8=>?_)))))
     ·refine .Fs 4 30 false (.zn zpT (.cT (.af (.zn zg (.ret (rT (Fin.bu Ex rfl ?_)))))))
      (try simp only [dE] at*)
      (try simp only [bI] at*)
      refine ⟨congrArg I ?_,hs.out⟩;unfold Lim.ok;first
       |(rw [if_pos (by simp only [Bool.and_eq_true,decide_eq_true_eq];omega)];done)
       |(rw [if_neg (by simp only [Bool.and_eq_true,decide_eq_true_eq];omega)];done)
     ·refine .T (.z (zfa mn) (.T (.y hs (zld aj) (.T (.o (.call HR rfl (eO hs) ?_))))));rintro _ w ⟨rfl,hs⟩;refine .T (.z fE (.zn zpF (.cond rfl (fun pK=>?_) (fun pK=>?_))))
      ·refine .af (.zn zg (.ret (rT (Fin.bu Ex rfl ?_))))
       (try simp only [dE] at*)
       (try simp only [bI] at*)
       refine ⟨congrArg I ?_,hs.out⟩;unfold Lim.ok;first
        |(rw [if_pos (by simp only [Bool.and_eq_true,decide_eq_true_eq];omega)];done)
        |(rw [if_neg (by simp only [Bool.and_eq_true,decide_eq_true_eq];omega)];done)
      ·refine .skip (nT (.af (.zn zg (.ret (Fin.bu Ex rfl ?_)))))
       (try simp only [dE] at*)
       (try simp only [bI] at*)
       refine ⟨congrArg I ?_,hs.out⟩;unfold Lim.ok;first
        |(rw [if_pos (by simp only [Bool.and_eq_true,decide_eq_true_eq];omega)];done)
        |(rw [if_neg (by simp only [Bool.and_eq_true,decide_eq_true_eq];omega)];done)
theorem qB{w:World}{v:Value}{s:dz}(hs:St H w σ)(hr:RSy H v s):ab8 206 [v] w fun v w'=>v=I s.check∧St H w' σ:=by
 obtain ⟨u,rfl,hr⟩:=hr;obtain ⟨a,c,rfl⟩:=RL.shape hr;have hlen:=(RS.len (RS.W5 hr (Nat.le_refl _) (tp:=s.dt.length))).2.2;refine Cl.o func206 ntmps206 ag1 ?_;refine .af (.bx hs fun b1 w hs=>?_);refine .zn zg (.seq (.af (.z (zfa cz) (.y hs (zld aj) (.o (.call HR rfl (eO hs) ?_))))));rintro _ w ⟨rfl,hs⟩;refine .zn fE (.cond rfl (fun B2=>?_) (fun B2=>?_))
 ·exact .af (.zn zg (.ret (rT (Fin.bu results206 rfl ⟨congrArg I (by unfold dz.check;rw [if_pos (by simp at B2;omega)]),hs.out⟩))))
 ·refine .skip (nT (.seq (.af (.z (zfa cn) (.y hs (zld fc) (.z (dk bj) (.zn ld (.bA rfl (fun fk=>?_) (fun fk=>?_)))))))))
  ·exact .af (.zn zg (.ret (rT (Fin.bu results206 rfl ⟨congrArg I (by unfold dz.check;rw [if_neg (by simpa using B2),if_pos ai]),hs.out⟩))))
  ·refine .skip (nT (.seq (.af (.z (zfa cn) (.y hs (zld fc) (.z (dk bj) (.zn zm (.for (N:=s.dt.length) (J:=fun k fr w=>fr=[(14,.slice a s.dt.length c),(1,Pt b1)]∧(∀j<k,∀l,s.dt[j]? =some l→l.ok s.many=true)∧St H w (.blk b1 [I s.many,.slice a s.dt.length c]::σ)) ai ?_ ?_ ?_))))))))
   ·exact .mk ⟨rfl,fun j hj=>by omega,hs⟩
   ·rintro k fr w hk ⟨rfl,fa,hs⟩;obtain ⟨x,hx⟩:=nth (l:=s.dt) hk;refine .block (.af (.ixX (enc:=Lim.c) hs hr rfl rfl bj cD hx rfl ?_));intro yD o18 im;refine .q hs (cj (vs:=x.c) rfl kT cD im) (.o (.alloc hs gz rfl fun b4 w hs=>?_));refine .o (.aJ (vs:=x.c) hs rfl rfl cD fun w hs=>?_);refine .nil (.af (.z (zfa cz) (.y hs (zld aj) (.q hs (nM (vs:=x.c) rfl kT cD) (.o (.call call256 rfl (rN hs) ?_))))));rintro _ w ⟨rfl,hs⟩;have LM:0≤s.many∧s.many≤64:=by simpa using B2
    rw [show (decide (0≤s.many∧s.many≤64)&&x.ok s.many)=x.ok s.many by rw [decide_eq_true LM];rfl];refine .zn fU (.dK rfl (fun jw=>?_) (fun jw=>?_))
    ·refine .af (.zn zg (.ret (rB (rT (rB (rT (Fin.bu results206 rfl ?_)))))));exact ⟨congrArg I (by
      have Eg:x.ok s.many=false:=by cases e:x.ok s.many with|false=>rfl|true=>rw [e] at jw;simp at jw
      unfold dz.check;rw [if_neg (by simpa using B2),if_neg ai,if_pos (List.any_eq_true.2 ⟨x,List.mem_of_getElem? hx,by rw [Eg];rfl⟩)]),hs.out⟩
    ·exact .skip (nB (nT (.mk ⟨rfl,fW fa hx (by cases e:x.ok s.many with|true=>rfl|false=>rw [e] at jw;simp at jw),hs.tail⟩)))
   ·rintro fr w ⟨rfl,fa,hs⟩;refine nT (.af (.zn zg (.ret (Fin.bu results206 rfl ?_))));exact ⟨congrArg I (by
     have tk:(s.dt.any fun l=> !l.ok s.many)=false:=by
      simp only [List.any_eq_false,Bool.not_eq_true',Bool.not_eq_false];intro l hl;obtain ⟨j,hj⟩:=List.getElem?_of_mem hl;exact fa j (List.getElem?_eq_some_iff.1 hj).1 l hj
     unfold dz.check;rw [if_neg (by simpa using B2),if_neg ai,tk];rfl),hs.out⟩
theorem yV{w:World}{v:Value}(hs:St H w σ)(hr:RI H v ws):ab8 300 [v] w fun v w'=>∃b,v= .bool b∧(b=true↔jT ws)∧St H w' σ:=by
 obtain ⟨a,c,rfl⟩:=RI.shape hr;have hl:=(RI.len hr).2.2;refine Cl.o func300 ntmps300 ag1 ?_;refine .af (.zn zg (.af (.zn zg (.seq (.af (.z zm (.z (dk ae) (.zn zm (.for (N:=ws.length) (J:=fun k fr w=>fr=[(6,.slice a ws.length c),(3,I (bU ws k))]∧bU ws k≤3600000000000∧St H w σ) ai ?_ ?_ ?_)))))))))
 ·exact .mk ⟨rfl,by simp [bU,a8],hs⟩
 ·rintro k fr w hk ⟨rfl,hle,hs⟩;have hx:=bG hk;have h0:0≤bU ws k:=dB fun v _=>by omega
  have h1:bU ws (k+1)=bU ws k+max (gi ws k) (-gi ws k):=rfl;refine .block (.af ?_);first|(refine .ixv hs ae ak ?_;intro pb o10 mB)|refine .z (zix ae ak) ?_
  refine .y hs (zld aj) (.zn zg (.seq (.af (.z zm (.z gV (.z zm (.ie (t':=14) rfl (fun He=>?_) (fun He=>?_))))))))
  ·exact .Fs 2 2 false (.zn zpT (.cT (.af (.zn zg (.ret (rT (rB (rT (rB (rT (Fin.bu results300 rfl ⟨false,rfl,⟨fun h=>(by cases h),fun h=>(pw (k:=k+1) hk (by simp only [FF];omega) h).elim⟩,hs⟩)))))))))))
  ·refine .T (.z zm (.T (.z ld (.zn zpF (.bA rfl (fun i7=>?_) (fun i7=>?_))))))
   ·exact .af (.zn zg (.ret (rT (rB (rT (rB (rT (Fin.bu results300 rfl ⟨false,rfl,⟨fun h=>(by cases h),fun h=>(pw (k:=k+1) hk (by simp only [FF];omega) h).elim⟩,hs⟩))))))))
   ·refine .skip (nT (.af (.z zm (.z zm (.z zm (.z BM (.z Je (.z cV (.zn zg (.af (.z zm (.zn ld (.bA rfl (fun gv=>?_) (fun gv=>?_))))))))))))))
    ·exact .af (.zn zg (.ret (rB (rT (rB (rT (Fin.bu results300 rfl ⟨false,rfl,⟨fun h=>(by cases h),fun h=>(pw (k:=k+1) hk (by simp only [FF];omega) h).elim⟩,hs⟩)))))))
    ·exact .skip (nB (nT (.mk ⟨rfl,ai,hs⟩ (hs:= .cons rfl (.cons rfl (.cons rfl (.da rfl ai (.nil rfl rfl))))))))
 ·rintro fr w ⟨rfl,hle,hs⟩;exact nT (.af (.zn zg (.ret (Fin.bu results300 rfl ⟨true,rfl,⟨fun _=>hle,fun _=>rfl⟩,hs⟩))))
theorem ve{w:World}{v:Value}{s:dz}(hs:St H w σ)(hr:RSy H v s)(oS:RI H vw ws)(hm:0≤s.many∧s.many≤64):ab8 278 [v,vw] w fun v w'=>∃b,v= .bool b∧(b=true↔(ws.length=s.n∧jT ws))∧St H w' σ:=by
 obtain ⟨u,rfl,hr⟩:=hr;obtain ⟨aw,cw,rfl⟩:=RI.shape oS;have hn:(s.n:Int)=s.many+1:=by simp only [dz.n];omega
 refine Cl.o func278 ntmps278 ag2 ?_;refine .af (.bx hs fun b2 w hs=>?_);refine .zn zg (.af (.z zm (.z (dk ae) (.z (zfa cz) (.y hs (zld aj) (.z cV (.z fJ (.z zm (.ie (t':=11) rfl (fun oV=>?_) (fun oV=>?_))))))))))
 ·refine .T (.z zm (.T (.o (.call call300 rfl (yV hs oS) ?_))));rintro _ w ⟨b,rfl,hb,hs⟩;refine .z zpT (.zn zg (.ret (Fin.bu results278 rfl ?_)));first
   |exact ⟨b,rfl,⟨fun h=>⟨ai,hb.1 h⟩,fun h=>hb.2 h.2⟩,hs.out⟩
   |exact ⟨false,rfl,⟨fun h=>(by cases h),fun h=>by omega⟩,hs.out⟩
 ·refine .Fs 2 6 true (.z zpF (.zn zg (.ret (Fin.bu results278 rfl ?_))));first
   |exact ⟨b,rfl,⟨fun h=>⟨ai,hb.1 h⟩,fun h=>hb.2 h.2⟩,hs.out⟩
   |exact ⟨false,rfl,⟨fun h=>(by cases h),fun h=>by omega⟩,hs.out⟩
theorem qz{w:World}{v:Value}{s:dz}(hs:St H w σ)(hr:RSy H v s)(oS:RI H vw ws):ab8 252 [v,vw] w fun v w'=>v=I (eS s ws)∧St H w' σ:=by
 obtain ⟨u,rfl,hr⟩:=hr;obtain ⟨al,cl,rfl⟩:=RL.shape hr;obtain ⟨aw,cw,rfl⟩:=RI.shape oS;refine Cl.o func252 ntmps252 ag2 ?_;refine .af (.bx hs fun b2 w hs=>?_);refine .zn zg (.af (.y hs (zls [_,_] bT aQ) (.o (.call call206 rfl (qB (s:=s) hs ⟨_,rfl,hr⟩) ?_))));rintro _ w ⟨rfl,hs⟩;refine .zn zg (.seq (.af (.z zm (.z fJ (.z zm (.ie (t':=10) rfl (fun pO=>?_) (fun pO=>?_)))))))
 ·refine .T ?_;have aU:=s.dr.1 pO;have Eh:=aU.m0;have JH:=aU.m1;refine .y hs (zls [_,_] bT aQ) (.T (.z zm (.T (.o (.call call278 rfl (ve (s:=s) hs ⟨_,rfl,hr⟩ oS ⟨Eh,JH⟩) ?_)))));rintro _ w ⟨b,rfl,hb,hs⟩;refine .T (.z fE (.zn zpT (.cond rfl (fun fq=>?_) (fun fq=>?_))))
  ·refine .region (.zn zg (nT (.af (.z zm (.zn zg (.ret (Fin.bu results252 rfl ⟨congrArg I ?_,hs.out⟩)))))));unfold eS;first
    |(rw [if_neg ai,if_neg (fun h=>by have:=hb.2 h;simp_all)];done)
    |(rw [if_neg ai,if_pos (hb.1 (by simpa using fq))];omega)
    |(rw [if_pos dv];done)
  ·refine .skip (nT (.af (.z zm (.zn zg (.ret (Fin.bu results252 rfl ⟨congrArg I ?_,hs.out⟩))))));unfold eS;first
    |(rw [if_neg ai,if_neg (fun h=>by have:=hb.2 h;simp_all)];done)
    |(rw [if_neg ai,if_pos (hb.1 (by simpa using fq))];omega)
    |(rw [if_pos dv];done)
 ·refine .Fs 4 2 true (.zn zpF (.cF (.skip (nT (.af (.z zm (.zn zg (.ret (Fin.bu results252 rfl ⟨congrArg I ?_,hs.out⟩)))))))));unfold eS;first
   |(rw [if_neg ai,if_neg (fun h=>by have:=hb.2 h;simp_all)];done)
   |(rw [if_neg ai,if_pos (hb.1 (by simpa using fq))];omega)
   |(rw [if_pos dv];done)
theorem uc{w:World}{v:Value}(hs:St H w σ)(hr:RI H v ws)(hl:ws.length≤1000)(hz:jT ws):ab8 281 [v] w fun u w'=>∃H1,HLe H H1∧RI H1 u (vK ws)∧St H1 w' σ:=by
 obtain ⟨a,c,rfl⟩:=RI.shape hr;have Zw:FF=3600000000000:=rfl;unfold jT at hz;refine Cl.o func281 ntmps281 ag1 ?_;refine .af (.zn zg (.af (.zn zg (.seq (.af (.z zm (.z (dk ae) (.zn zm (.for (N:=ws.length) (J:=fun k fr w=>∃v3 en,dj 1 v3 (Is (vK (ws.take k))) en∧fr=[(3,v3),(6,.slice a ws.length c)]∧St H w (en::σ)) ai ?_ ?_ ?_)))))))))
 ·exact .mk ⟨_,_,.nil 1 none,rfl,hs.nul⟩
 ·rintro k fr w hk ⟨v3,en,hO,rfl,hs⟩;have hx:=bG hk;have ur:=kO ws (v:=k) (n:=ws.length) hk;refine .block (.af (.ixY hs hr rfl rfl ae ak hx rfl ?_));intro pb o10 mB;refine .q hs (aF rfl aj mB) (.zn zg (.region (.z zm (.z zm (.z BM (.o (.buildSlice (cells:=[_]) hs dw rfl rfl fun Gq w hs=>?_)))))));refine .o (.append (ys:=[I (-gi ws k)]) hs df rfl rfl hO (.own .here rfl rfl) (by simp [Value.oneCell']) (fun l' h=>by simp [vK] at h;omega) ?_);intro v16 en16 w eG hs;exact .zn zg (nB (nT (.mk ⟨v16,en16,by rw [dX hx];simpa [vK] using eG,rfl,hs.sb⟩)))
 ·rintro fr w ⟨v3,en,hO,rfl,hs⟩;rw [List.take_length] at hO;refine nT (.af (.z zm (.zn zg (.ret (Fin.bu results281 rfl ?_)))));obtain ⟨H2,g1,g2,hs⟩:=hO.eI (by simp [vK];omega) hs .here;exact ⟨H2,g1,g2,hs⟩
theorem rK{w:World}{s:dz}(hs:St H w σ)(hM:RT H vm Ms)(Gk:Sq s.n Ms)(hT:kY s.n s.dL (gt Ms))(oS:RI H vw ws)(hA:eS s ws=0):
  ab8 280 [vm,vw] w fun u w'=>∃H1 n e,HLe H H1∧u= .tuple #[I n,I e]∧ox s ws n e∧St H1 w' σ:=by
 obtain ⟨aU,BC,hz⟩:=lW hA;have Fk:=aU.inn;have xG:=aU.n65;have Wp:=s.AO;obtain ⟨fs,hF⟩:=Jh s.n (gt Ms);have uN:=Cr aU hT;have Wb:bU ws s.n≤FF:=by unfold jT at hz;rwa [BC] at hz
 refine Cl.o func280 ntmps280 ag2 ?_;refine .af (.z zg (.zn zg (.seq (.af (.z zm (.o (.call call208 rfl (qA hs hM Gk ai) ?_)))))));rintro _ w ⟨b,rfl,hb,hs⟩;refine .zn fE (.cond rfl (fun mB=>?_) (fun mB=>?_))
 ·refine .af (.z zg (.zn zg (.ret (rT (Fin.iz results280 rfl rfl ?_)))));have FE:b=false:=by simpa using mB
  exact ⟨H,0,23,HLe.refl H,rfl,AP hA (fun h=>by have:=hb.2 (uN.1 h);rw [FE] at this;cases this),hs⟩
 ·refine .skip (nT (.af (.z zm (.z zm ?_))));have XF:s.Sound:=uN.2 (hb.1 (by simpa using mB));refine .o (.call call301 rfl (yY (n:=s.many.toNat) (es:=fs) hs hM Gk oS BC xG Wb hF (by obtain ⟨p,hp⟩:=XF;exact ⟨p,(hT.Em Fk hF).2 hp⟩)
   (fun x hx=>by
    obtain ⟨b1,b2,b3,b4,b5⟩:=hF.ok x hx;have h1:=hT.up x.f x.t b1 b2 (by rw [b4];exact b5);have h2:=hT.low Wp xG Fk XF b1 b2 (by rw [b4];exact b5);rw [b4] at h1 h2;exact ⟨h2,h1⟩)
   (fun m hm=>by
    have:=(aU.bd BC hz ((hT.opt Fk hF).1 hm)).2;exact ⟨this.2,this.1⟩)) ?_);rintro _ w ⟨H1,n,ok,az,rfl,jk,hs⟩
  refine .z zm (.z zex (.z zex (.z zg (.zn zg (.seq (.af (.z zm (.zn fE (.cond rfl (fun im=>?_) (fun im=>?_))))))))))
  ·refine .af (.z zg (.zn zg (.ret (rT (Fin.iz results280 rfl rfl ?_)))));have Gm:ok=false:=by simpa using im
   rcases jk with ⟨h,_⟩|⟨_,h⟩
   ·rw [Gm] at h;cases h
   ·exact ⟨H1,0,22,az,rfl,Jy hA XF hT hF h,hs⟩
  ·refine .skip (nT (.af (.z zm (.z zg (.zn zg (.ret (Fin.iz results280 rfl rfl ?_)))))));have Gm:ok=true:=by simpa using im
   rcases jk with ⟨_,h⟩|⟨h,_⟩
   ·exact ⟨H1,n,0,az,rfl,Li hA hT hF h,hs⟩
   ·rw [Gm] at h;cases h
theorem AE{w:World}{v:Value}{s:dz}(hs:St H w σ)(hr:RSy H v s)(oS:RI H vw ws)(hA:eS s ws=0):
  ab8 255 [v,vw] w fun u w'=>∃H1 lo hi e,HLe H H1∧u= .tuple #[I lo,I hi,I e]∧i6 s ws lo hi e∧St H1 w' σ:=by
 obtain ⟨u,rfl,hr⟩:=hr;obtain ⟨al,cl,rfl⟩:=RL.shape hr;obtain ⟨aU,BC,hz⟩:=lW hA;have xG:=aU.n65;have hBB:BB=4608000000000000000:=rfl;refine Cl.o func255 ntmps255 ag2 ?_;refine .af (.bx hs fun b2 w hs=>?_);refine .z zg (.z zg (.zn zg (.af (.y hs (zls [_,_] bT aQ) (.o (.call call207 rfl (rL (s:=s) hs ⟨_,rfl,hr⟩ aU) ?_))))));rintro _ w ⟨H1,Ms,az,hM,Gk,hT,hs⟩;refine .zn zg (.af (.z zm (.z zm (.o (.call call280 rfl (rK (s:=s) hs hM Gk hT (oS.mono az) hA) ?_)))));rintro _ w ⟨H2,n,e,bp,rfl,hR,hs⟩;refine .z zm (.z zex (.z zex (.z zg (.zn zg (.seq (.af (.z zm (.zn fU (.dK rfl (fun mU=>?_) (fun mU=>?_))))))))))
 ·exact .af (.z zm (.z zg (.z zg (.zn zg (.ret (rT (Fin.PJ results255 rfl rfl rfl ⟨H2,0,0,e,az.trans bp,rfl,.first hR mU,hs.out⟩)))))))
 ·refine .skip (nT (.af (.z zm (.z zm ?_))));obtain rfl:e=0:=by simpa using mU
  refine .o (.call call281 rfl (uc hs ((oS.mono az).mono bp) ai hz) ?_);rintro _ w ⟨H3,cZ,hN,hs⟩;refine .o (.call call280 rfl (rK (s:=s) (ws:=vK ws) hs ((hM.mono bp).mono cZ) Gk hT hN (by rw [sZ];exact hA)) ?_);rintro _ w ⟨H4,n2,e2,gj,rfl,Vc,hs⟩;refine .z zm (.z zex (.z zex (.z zg (.zn zg (.seq (.af (.z zm (.zn fU (.dK rfl (fun qi=>?_) (fun qi=>?_))))))))))
  ·exact .af (.z zm (.z zg (.z zg (.zn zg (.ret (rT (Fin.PJ results255 rfl rfl rfl ⟨H4,0,0,e2,az.trans (bp.trans (cZ.trans gj)),rfl,.second hR Vc qi,hs.out⟩)))))))
  ·refine .skip (nT (.af (.z zm ?_)));obtain rfl:e2=0:=by simpa using qi
   have zR:=(Vc.2.2 rfl).2;exact .z BM (.z zm (.z zg (.z zg (.zn zg (.ret (Fin.PJ results255 rfl rfl rfl ⟨H4,-n2,n,0,az.trans (bp.trans (cZ.trans gj)),rfl,.ok hR Vc,hs.out⟩))))))
theorem yX{w:World}{v:Value}{s:dz}(hs:St H w σ)(hr:RSy H v s)(oS:RI H vw ws):
  ab8 204 [v,vw] w fun u w'=>∃H1 lo hi e,HLe H H1∧u= .tuple #[I lo,I hi,I e]∧i6 s ws lo hi e∧St H1 w' σ:=by
 obtain ⟨u,rfl,hr⟩:=hr;obtain ⟨al,cl,rfl⟩:=RL.shape hr;obtain ⟨aw,cw,rfl⟩:=RI.shape oS;refine Cl.o func204 ntmps204 ag2 ?_;refine .af (.bx hs fun b2 w hs=>?_);refine .z zg (.z zg (.zn zg (.af (.y hs (zls [_,_] bT aQ) (.z zm (.o (.call call252 rfl (qz (s:=s) hs ⟨_,rfl,hr⟩ oS) ?_)))))));rintro _ w ⟨rfl,hs⟩;refine .zn zg (.seq (.af (.z zm (.zn fU (.dK rfl (fun fk=>?_) (fun fk=>?_))))))
 ·exact .af (.z zm (.z zg (.z zg (.zn zg (.ret (rT (Fin.PJ results204 rfl rfl rfl ⟨H,0,0,_,HLe.refl H,rfl,.first ⟨.bad fk,fun _=>rfl,fun h=>(fk h).elim⟩ fk,hs.out⟩)))))))
 ·refine .skip (nT (.af (.y hs (zls [_,_] bT aQ) (.z zm ?_))));have hA:eS s ws=0:=by simpa using fk
  refine .o (.call call255 rfl (AE (s:=s) hs ⟨_,rfl,hr⟩ oS hA) ?_);rintro _ w ⟨H1,lo,hi,e,az,rfl,hR,hs⟩;exact .z zex (.z zex (.z zex (.z zg (.z zg (.zn zg (.ret (Fin.PJ results204 rfl rfl rfl ⟨H1,lo,hi,e,az,rfl,hR,hs.out⟩)))))))
set_option maxHeartbeats 8000000 in
theorem rM{w:World}{v:Value}{s:dz}{n:Int}(hs:St H w σ)(hr:RSy H v s)(oS:RI H vw ws)(hp:RPf H vp n us):
  ab8 202 [v,vw,vp] w fun v w'=>∃e,v=I e∧CV s ws n us e∧St H w' σ:=by
 obtain ⟨u,rfl,hr⟩:=hr;obtain ⟨al,cl,rfl⟩:=RL.shape hr;obtain ⟨aw,cw,rfl⟩:=RI.shape oS;obtain ⟨uu,rfl,hU⟩:=hp;obtain ⟨au,cu,rfl⟩:=RU.shape hU;refine Cl.o func202 ntmps202 ag3 ?_;refine .af (.bx hs fun b3 w hs=>?_);refine .bx hs fun b5 w hs=>?_
 refine .zn zg (.af (.y hs (zls [_,_] bT aQ) (.z zm (.o (.call call252 rfl (qz (s:=s) hs ⟨_,rfl,hr⟩ oS) ?_)))));rintro _ w ⟨rfl,hs⟩;refine .zn zg (.seq (.af (.z zm (.zn fU (.dK rfl (fun lM=>?_) (fun lM=>?_))))))
 ·exact .af (.z zm (.zn zg (.ret (rT (Fin.bu Ey rfl ⟨_,rfl,.ask lM,hs.out⟩)))))
 ·refine .skip (nT (.seq (.af (.z (zfa ez) (.y hs (zld o9) (.z (dk dq) (.zn ld (.bA rfl (fun jw=>?_) (fun jw=>?_)))))))))
  ·exact .af (.zn zg (.ret (rT (Fin.bu Ey rfl ⟨_,rfl,.bad (by simpa using lM) (fun h=>by have:=h.len;omega),hs.out⟩))))
  ·refine .skip (nT (.af (.z (zfa cz) (.y hs (zld aj) ?_))));have hA:eS s ws=0:=by simpa using lM
   obtain ⟨aU,BC,hz⟩:=lW hA;have Eh:=aU.m0;have xG:=aU.n65;have wS:=aU.len;have P0:s.many+1=(s.n:Int):=by simp only [dz.n];omega
   refine .z cV ?_;rw [P0];refine .o (.vO s.n hs rfl rfl ae jK rfl ak dA ai fun J1 w hs=>?_);refine .zn zg (.af (.zn zg (.af (.zn zg (.seq (.af (.z (zfa ez) (.y hs (zld o9) (.z (dk dq) (.zn zm (.for (N:=us.length) (J:=fun k fr w=>fr=[(30,.slice au us.length cu),(8,.slice (some ⟨J1,0,none⟩) s.n s.n),(9,I (iQ us k)),(10,I (lV s us k)),(3,Pt b3),(5,Pt b5),(1,.slice aw ws.length cw)]∧∃C,(C.length=s.n∧∀v<s.n,gi C v=rY s us k v)∧(∀i<k,wL s us i)∧iQ us k≤230400000000000∧St H w (.blk J1 (Is C):: .blk b5 [I n,.slice au us.length cu]:: .blk b3 [I s.many,.slice al s.dt.length cl]::σ)) ai ?_ ?_ ?_)))))))))))
   ·exact .mk ⟨rfl,_,⟨bK,fun v hv=>by rw [eK _ _ hv];rfl⟩,fun i hi=>by omega,by simp [iQ,a8],hs⟩
   ·rintro k fr w hk ⟨rfl,C,⟨Kr,El⟩,FG,Wz,hs⟩;have hx:=IH hk;refine .block (.af (.z zm (.ixX (enc:=Use.c) hs hU rfl rfl dq jL hx rfl ?_)));intro Po o35 nv;refine .q hs (cj (vs:=(gu us k).c) rfl isAgg199 jL nv) (.o (.alloc hs Gb rfl fun En w hs=>?_));refine .z zg (.o (.aJ (vs:=(gu us k).c) hs rfl rfl jL fun w hs=>?_));refine .nil (.seq (.cut (fun fs w=>∃p,lr fs ⟨124,[],[(66,.bool p),(12,Pt En),(32,I (k:Int)),(31,I (us.length:Int)),(30,.slice au us.length cu),(8,.slice (some ⟨J1,0,none⟩) s.n s.n),(9,I (iQ us k)),(10,I (lV s us k)),(3,Pt b3),(5,Pt b5),(1,.slice aw ws.length cw)]⟩∧(p=true→¬wL s us k)∧(p=false→wL s us k)∧St H w (.blk En (gu us k).c:: .blk J1 (Is C):: .blk b5 [I n,.slice au us.length cu]:: .blk b3 [I s.many,.slice al s.dt.length cl]::σ)) ?_ ?_))
    ·refine .draw mix rfl hs fun w hs=>?_
     refine .zw 0 rfl (zfa iL) ?_;refine .y 1 rfl hs aj ?_;refine .z 2 rfl (zfa cn) ?_;refine .y 3 rfl hs fc ?_;refine .z 4 rfl (dk bj) ?_;refine .z 5 rfl gE ?_;refine .E 6 hs ?_;refine .call HR rfl (eO hs) ?_;rintro _ w ⟨rfl,hs⟩;refine .go (.zw 7 rfl fE ?_);refine .z 8 rfl zm ?_;refine .bif (t':=45) rfl (fun xO=>?_) (fun xO=>?_)
     ·refine .F 9 rfl (.F 10 rfl ?_);refine .F 11 rfl (.F 12 rfl (.F 13 rfl (.F 14 rfl (.F 15 rfl (.F 16 rfl (.F 17 rfl (.F 18 rfl (.F 19 rfl (.F 20 rfl (.F 21 rfl (.F 22 rfl (.zw 23 rfl zpT ?_))))))))))));refine .z 24 rfl zm ?_;refine .F 25 rfl (.F 26 rfl (.F 27 rfl (.F 28 rfl (.zw 29 rfl zpT ?_))));refine .D hs ?_;exact nT ⟨_,aM,by
       intro hp hU;have h1:=hU.l0;have h2:=hU.l1;have h3:=hU.t0;have h4:=hU.t1;have h5:=hU.ord;first
        |(cases hp;done)
        |(have:=dE.1 xO;omega)
        |(have:=h5 ai;omega)
        |(have:=dE.1 hp;omega),by
       intro hp;first
        |(cases hp;done)
        |exact ⟨by have:=bI.1 xO;omega,by have:=bI.1 xO;omega,by have:=bI.1 hp;omega,by have:=bI.1 hp;omega,fun h=>by omega⟩,hs⟩
     ·refine .zw 9 rfl zm ?_;refine .z 10 rfl ld ?_;refine .z 11 rfl zm ?_;refine .ie (t':=48) rfl (fun Mo=>?_) (fun Mo=>?_)
      ·refine .zw 12 rfl (zfa ez) ?_;refine .y 13 rfl hs o9 ?_;refine .z 14 rfl zm ?_;refine .z 15 rfl gE ?_;refine .ixX (enc:=Use.c) (i:=16) hs rfl aD (.some rfl rfl) hU rfl rfl dq jL (IH (i:=k - 1) ai) ai ?_;intro ZI o53 ux;refine .zw 17 rfl (zfa iL) (.r (i:=18) hs rfl aD (.some rfl rfl) (aF rfl aj (ux.get 0 rfl)) ?_);refine .zw 19 rfl (zfa iL) ?_;refine .y 20 rfl hs aj ?_;refine .z 21 rfl tN ?_;refine .z 22 rfl zpT ?_;refine .z 23 rfl zpF ?_;refine .z 24 rfl zm ?_;refine .ie (t':=61) rfl (fun YT=>?_) (fun YT=>?_)
       ·refine .F 25 rfl (.F 26 rfl (.F 27 rfl (.F 28 rfl (.zw 29 rfl zpT ?_))));refine .D hs ?_;exact nT ⟨_,aM,by
         intro hp hU;have h1:=hU.l0;have h2:=hU.l1;have h3:=hU.t0;have h4:=hU.t1;have h5:=hU.ord;first
          |(cases hp;done)
          |(have:=dE.1 xO;omega)
          |(have:=h5 ai;omega)
          |(have:=dE.1 hp;omega),by
         intro hp;first
          |(cases hp;done)
          |exact ⟨by have:=bI.1 xO;omega,by have:=bI.1 xO;omega,by have:=bI.1 hp;omega,by have:=bI.1 hp;omega,fun h=>by omega⟩,hs⟩
       ·refine .zw 25 rfl (zfa ft) ?_;refine .y 26 rfl hs aj ?_;refine .E 27 hs ?_;refine .call HR rfl (eO hs) ?_;rintro _ w ⟨rfl,hs⟩;refine .go (.zw 28 rfl fE ?_);refine .z 29 rfl zpF ?_;refine .D hs ?_;exact nT ⟨_,aM,by
         intro hp hU;have h1:=hU.l0;have h2:=hU.l1;have h3:=hU.t0;have h4:=hU.t1;have h5:=hU.ord;first
          |(cases hp;done)
          |(have:=dE.1 xO;omega)
          |(have:=h5 ai;omega)
          |(have:=dE.1 hp;omega),by
         intro hp;first
          |(cases hp;done)
          |exact ⟨by have:=bI.1 xO;omega,by have:=bI.1 xO;omega,by have:=bI.1 hp;omega,by have:=bI.1 hp;omega,fun h=>by omega⟩,hs⟩
      ·refine .F 12 rfl (.F 13 rfl (.F 14 rfl (.F 15 rfl (.F 16 rfl (.F 17 rfl (.F 18 rfl (.F 19 rfl (.F 20 rfl (.F 21 rfl (.zw 22 rfl zpF ?_))))))))));refine .z 23 rfl zpF ?_;refine .z 24 rfl zm ?_;refine .z 25 rfl (zfa ft) ?_;refine .y 26 rfl hs aj ?_;refine .E 27 hs ?_;refine .call HR rfl (eO hs) ?_;rintro _ w ⟨rfl,hs⟩;refine .go (.zw 28 rfl fE ?_);refine .z 29 rfl zpF ?_;refine .D hs ?_;exact nT ⟨_,aM,by
        intro hp hU;have h1:=hU.l0;have h2:=hU.l1;have h3:=hU.t0;have h4:=hU.t1;have h5:=hU.ord;first
         |(cases hp;done)
         |(have:=dE.1 xO;omega)
         |(have:=h5 ai;omega)
         |(have:=dE.1 hp;omega),by
        intro hp;first
         |(cases hp;done)
         |exact ⟨by have:=bI.1 xO;omega,by have:=bI.1 xO;omega,by have:=bI.1 hp;omega,by have:=bI.1 hp;omega,fun h=>by omega⟩,hs⟩
    ·rintro fs w ⟨p,gP,zQ,uO,hs⟩;refine WE.sub ?_ gP;refine (.cond rfl (fun sa=>?_) (fun sa=>?_))
     ·exact .af (.zn zg (.ret (rT (rB (rT (rB (rT (Fin.bu Ey rfl ⟨_,rfl,.bad hA (fun h=>zQ sa (h.use k hk)),hs.out⟩))))))))
     ·refine .skip (nT (.af ?_));have Mu:=uO (by simpa using sa);have OW:∀i<k+1,wL s us i:=fun i hi=>by
       by_cases e:i=k
       ·subst e;exact Mu
       ·exact FG i ai
      have hTp:=EH FG;have T7:=Mu.t0;have ht1:=Mu.t1;have Kl:=Mu.l0;have LS:=Mu.l1;have Nj:=IT (ls:=s.dt) (i:=(gu us k).l.toNat) ai;obtain ⟨⟨xa0,xa1⟩,⟨xb0,xb1⟩,xne,xM,-⟩:=aU.lim _ (List.mem_of_getElem? Nj);have hbd1:=zZ aU FG;have hbd2:=zZ aU OW;have S8:lV s us (k+1)=lV s us k+(gu us k).t*(ul s us k).M:=rfl;have Xx:iQ us (k+1)=iQ us k+(gu us k).t:=rfl;change 0≤(ul s us k).A at xa0;change (ul s us k).A≤s.many at xa1;change 0≤(ul s us k).B at xb0;change (ul s us k).B≤s.many at xb1;change (ul s us k).A≠(ul s us k).B at xne;have Uz:=DG FG (ul s us k).B.toNat;have hia:=DG FG (ul s us k).A.toNat;have Sd:(ul s us k).A.toNat<s.n:=by omega
      have Sc:(ul s us k).B.toNat<s.n:=by omega
      have hgA:=El _ Sd;have hgB:=El _ Sc;refine .z zm (.z (zfa ft) (.y hs (zld aj) (.z cV (.zn zg (.seq (.af (.z zm (.zn ld (.bA rfl (fun LZ=>?_) (fun LZ=>?_))))))))))
      ·exact .af (.zn zg (.ret (rT (rB (rT (rB (rT (Fin.bu Ey rfl ⟨_,rfl,.bad hA (fun h=>by have:=ND h.use (k:=k+1) ai;have:=h.tot;omega),hs.out⟩))))))))
      ·refine .skip (nT (.af (.z (zfa cn) (.y hs (zld fc) (.z (zfa iL) (.y hs (zld aj) (.ixX (enc:=Lim.c) hs hr rfl rfl bj cD Nj ai ?_)))))));intro ab0 o77 G5;refine .q hs (cj (vs:=(ul s us k).c) rfl kT cD G5) (.o (.alloc hs gz rfl fun nm w hs=>?_));refine .o (.aJ (vs:=(ul s us k).c) hs rfl rfl cD fun w hs=>?_);refine .nil (.seq (.draw mix rfl hs fun w hs=>?_));refine .zw 0 rfl zm ?_;refine .z 1 rfl (zfa eZ) ?_;refine .y 2 rfl hs aj ?_;refine .zw 3 rfl (eH (k:=(ul s us k).B.toNat) rfl rfl ae ak ai Sc) (.y 4 rfl hs aj ?_);refine .z 5 rfl (zfa ft) ?_;refine .y 6 rfl hs aj ?_;refine .z 7 rfl cV ?_;refine .zw 8 rfl (eH (k:=(ul s us k).B.toNat) rfl rfl ae ak ai Sc) (.E 9 hs ?_);refine .store hs rfl rfl ak ?_;intro w hs;refine .go (.D hs ?_);have Sb:(C.set (ul s us k).B.toNat (gi C (ul s us k).B.toNat+(gu us k).t)).length=s.n:=by rw [List.length_set];exact Kr
       have Sa:∀v,gi (C.set (ul s us k).B.toNat (gi C (ul s us k).B.toNat+(gu us k).t)) v=if v=(ul s us k).B.toNat then gi C (ul s us k).B.toNat+(gu us k).t else gi C v:=fun v=>fi ai _ v
       generalize C.set (ul s us k).B.toNat (gi C (ul s us k).B.toNat+(gu us k).t)=D at hs Sb Sa;have Yo:gi D (ul s us k).A.toNat=gi C (ul s us k).A.toNat:=by rw [Sa,if_neg ai]
       refine .seq (.draw mix rfl hs fun w hs=>?_);refine .zw 0 rfl zm ?_;refine .z 1 rfl (zfa eN) ?_;refine .y 2 rfl hs aj ?_;refine .zw 3 rfl (eH (k:=(ul s us k).A.toNat) rfl rfl ae ak ai Sd) (.y 4 rfl hs aj ?_);refine .z 5 rfl (zfa ft) ?_;refine .y 6 rfl hs aj ?_;refine .z 7 rfl gE ?_;refine .zw 8 rfl (eH (k:=(ul s us k).A.toNat) rfl rfl ae ak ai Sd) (.E 9 hs ?_);refine .store hs rfl rfl ak ?_;intro w hs;refine .go (.D hs (.region (.z zm (.z (zfa ft) (.y hs (zld aj) (.z (zfa fN) (.y hs (zld aj) (.z la (.z cV (.zn zg (nB (nT ?_))))))))))));exact .mk ⟨rfl,D.set (ul s us k).A.toNat (gi D (ul s us k).A.toNat - (gu us k).t),⟨by rw [List.length_set];exact Sb,fun v hv=>by
        have Iz:rY s us (k+1) v=rY s us k v+(gu us k).t*(ind (ul s us k).B.toNat v - ind (ul s us k).A.toNat v):=rfl;rw [fi ai,Iz,←El v hv];by_cases e1:v=(ul s us k).A.toNat
        ·have i1:ind (ul s us k).A.toNat v=1:=by unfold ind;rw [if_pos e1.symm]
         have i2:ind (ul s us k).B.toNat v=0:=by unfold ind;rw [if_neg ai]
         rw [if_pos e1,Yo,i1,i2,e1];omega
        ·have i1:ind (ul s us k).A.toNat v=0:=by unfold ind;rw [if_neg ai]
         rw [if_neg e1,Sa,i1];by_cases e2:v=(ul s us k).B.toNat
         ·have i2:ind (ul s us k).B.toNat v=1:=by unfold ind;rw [if_pos e2.symm]
          rw [if_pos e2,i2,e2];omega
         ·have i2:ind (ul s us k).B.toNat v=0:=by unfold ind;rw [if_neg ai]
          rw [if_neg e2,i2];omega⟩,OW,ai,hs.sb⟩ (hs:= .cons rfl (.cons rfl (.cons rfl (.cons rfl (.da rfl Xx.symm (.da rfl S8.symm aM))))))
   ·rintro fr w ⟨rfl,C,⟨Kr,El⟩,FG,Wz,hs⟩;have hlen:us.length≤400:=by omega
    refine nT (.seq (.af (.zn zg (.block ?_))));refine .loop (fun k:Nat=>⟨124,[],[(14,I ((k:Int)+1)),(8,.slice (some ⟨J1,0,none⟩) s.n s.n),(10,I (lV s us us.length)),(3,Pt b3),(5,Pt b5),(1,.slice aw ws.length cw)]⟩)
     (fun k w=>(k+1≤s.n∧∀v,1≤v→v<k+1→gi C v=gi ws v)∧St H w (.blk J1 (Is C):: .blk b5 [I n,.slice au us.length cu]:: .blk b3 [I s.many,.slice al s.dt.length cl]::σ))
     (fun k=>s.n - k) 0 aM ⟨⟨s.AO,fun v h1 h2=>by omega⟩,hs⟩ ?_
    clear hs;rintro k w ⟨⟨hk,fa⟩,hs⟩;refine .seq (.af (.z zm (.z (zfa cz) (.y hs (zld aj) (.zn pc (.bA rfl (fun IE=>?_) (fun IE=>?_)))))))
    ·refine .skip (nT (.seq (.block (.seq (.draw mix rfl hs fun w hs=>?_)))));have BZ:k+1<s.n:=by omega
     refine .zw 0 rfl zm ?_;refine .z 1 rfl zm ?_;refine .zw 2 rfl (eH (k:=k+1) rfl rfl ae ak (by push_cast;rfl) BZ) ?_;refine .y 3 rfl hs aj ?_;refine .z 4 rfl zm ?_;refine .z 5 rfl zm ?_;refine .ixX (enc:=fun x=>[I x]) (i:=6) hs rfl aD .none oS rfl rfl ae ak (bG (l:=ws) (i:=k+1) ai) (by push_cast;rfl) ?_;intro ZY o117 CG;replace CG:=bJ.one CG;refine .r (i:=7) hs rfl aD .none (aF rfl aj CG) ?_;refine .zw 8 rfl fU ?_;refine .D hs ?_;refine (.dK rfl (fun Mf=>?_) (fun Mf=>?_))
     ·exact .af (.zn zg (.ret (rB (rT (rT (rB (rT (Fin.bu Ey rfl ⟨_,rfl,.bad hA (fun h=>Mf (by rw [El _ BZ];exact h.into _ ai BZ)),hs.out⟩))))))))
     ·refine .skip (nB (nT (.region (.z zm (.z cV (.zn zg (nT ?_)))))));exact ⟨k+1,.da rfl (by push_cast;omega) aM,⟨⟨ai,fun v h1 h2=>by
       by_cases e:v=k+1
       ·subst e;exact Mf
       ·exact fa v h1 ai⟩,hs⟩,ai⟩
    ·refine .exit (xT (xT (xB (nT (.seq (.af (.z zm (.z (zfa eX) (.y hs (zld aj) (.zn fU (.dK rfl (fun Fw=>?_) (fun Fw=>?_))))))))))))
     ·exact .af (.zn zg (.ret (rT (Fin.bu Ey rfl ⟨_,rfl,.bad hA (fun h=>Fw h.bound),hs.out⟩))))
     ·exact .skip (nT (.af (.zn zg (.ret (Fin.bu Ey rfl ⟨_,rfl,.ok hA ⟨hlen,FG,Wz,fun v h1 h2=>by rw [←El v h2];exact fa v h1 ai,by simpa using Fw⟩,hs.out⟩)))))
theorem yP{w:World}{va:Value}{A B:List Int}(hs:St H w σ)(hA:RI H va A)(hB:RI H vb B):
  ab8 279 [va,vb] w fun v w'=>v= .bool (decide (A=B))∧St H w' σ:=by
 obtain ⟨aA,cA,rfl⟩:=RI.shape hA;obtain ⟨aB,cB,rfl⟩:=RI.shape hB;have hlA:=(RI.len hA).2.2;have hlB:=(RI.len hB).2.2;refine Cl.o func279 ntmps279 ag2 ?_;refine .af (.zn zg (.seq (.af (.z zm (.z (dk ae) (.z zm (.z (dk ae) (.zn fU (.dK rfl (fun mB=>?_) (fun mB=>?_))))))))))
 ·exact .af (.zn zg (.ret (rT (Fin.bu results279 rfl ⟨by rw [decide_eq_false (by intro h;subst h;exact mB rfl)],hs⟩))))
 ·refine .skip (nT (.seq (.af (.z zm (.z (dk ae) (.zn zm (.for (N:=A.length) (J:=fun k fr w=>fr=[(0,.slice aA A.length cA),(1,.slice aB B.length cB)]∧(∀j<k,A[j]? =B[j]?)∧St H w σ) ai ?_ ?_ ?_)))))))
  ·exact .mk ⟨rfl,fun j h=>by omega,hs⟩
  ·rintro k fr w hk ⟨rfl,h0,hs⟩;obtain ⟨xA,Xr⟩:=nth hk;obtain ⟨xB,Wf⟩:=nth (l:=B) (k:=k) ai;refine .block (.af (.z zm (.zn zg (.seq (.draw mix rfl hs fun w hs=>?_)))));refine .zw 0 rfl zm ?_;refine .z 1 rfl zm ?_;refine .ixX (enc:=fun x=>[I x]) (i:=2) hs rfl aD .none hA rfl rfl ae ak Xr rfl ?_;intro yD o18 im;replace im:=bJ.one im;refine .r (i:=3) hs rfl aD .none (aF rfl aj im) ?_;refine .zw 4 rfl zm ?_;refine .z 5 rfl zm ?_;refine .ixX (enc:=fun x=>[I x]) (i:=6) hs rfl aD .none hB rfl rfl ae ak Wf rfl ?_;intro VL o22 jV;replace jV:=bJ.one jV;refine .r (i:=7) hs rfl aD .none (aF rfl aj jV) ?_;refine .zw 8 rfl fU ?_;refine .D hs ?_;refine (.dK rfl (fun jw=>?_) (fun jw=>?_))
   ·exact .af (.zn zg (.ret (rB (rT (rB (rT (Fin.bu results279 rfl ⟨by rw [decide_eq_false (by intro h;subst h;rw [Xr] at Wf;cases Wf;exact jw rfl)],hs⟩)))))))
   ·refine .skip (nB (nT ?_));exact .mk ⟨rfl,fun j hj=>by
     by_cases e:j=k
     ·subst e;rw [Xr,Wf,jw]
     ·exact h0 j ai,hs⟩
  ·rintro fr w ⟨rfl,h0,hs⟩;refine nT (.af (.zn zg (.ret (Fin.bu results279 rfl ?_))));exact ⟨by rw [decide_eq_true (List.ext_getElem? fun j=>by
    by_cases e:j<A.length
    ·exact h0 j e
    ·rw [List.getElem?_eq_none ai,List.getElem?_eq_none ai])],hs⟩
set_option maxHeartbeats 8000000 in
theorem wz{w:World}{v:Value}{s:dz}{n:Int}(hs:St H w σ)(hr:RSy H v s)(oS:RI H vw ws)(hp:RPf H vp n us)(hA:eS s ws=0):
  ab8 254 [v,vw,vp] w fun v w'=>∃H1 b,HLe H H1∧v= .bool b∧(b=true↔o5 s ws n us)∧St H1 w' σ:=by
 obtain ⟨u,rfl,hr⟩:=hr;obtain ⟨al,cl,rfl⟩:=RL.shape hr;obtain ⟨aw,cw,rfl⟩:=RI.shape oS;obtain ⟨uu,rfl,hU⟩:=hp;obtain ⟨au,cu,rfl⟩:=RU.shape hU;obtain ⟨aU,BC,hz⟩:=lW hA;have Eh:=aU.m0;have xG:=aU.n65;have wS:=aU.len;have P0:s.many+1=(s.n:Int):=by simp only [dz.n];omega
 refine Cl.o func254 ntmps254 ag3 ?_;refine .af (.bx hs fun b3 w hs=>?_);refine .bx hs fun b5 w hs=>?_
 refine .zn zg (.seq (.af (.z (zfa ez) (.y hs (zld o9) (.z (dk dq) (.zn ld (.bA rfl (fun dY=>?_) (fun dY=>?_))))))))
 ·exact .af (.zn zg (.ret (rT (Fin.bu results254 rfl ⟨H,false,HLe.refl H,rfl,⟨fun h=>(by cases h),fun h=>by have:=h.len;omega⟩,hs.out⟩))))
 ·refine .skip (nT (.af (.z (zfa cz) (.y hs (zld aj) (.z cV ?_)))));rw [P0];refine .o (.vO s.n hs rfl rfl ae jK rfl ak dA ai fun BE w hs=>?_);refine .zn zg (.af (.z zg (.zn zg (.seq (.af (.z (zfa ez) (.y hs (zld o9) (.z (dk dq) (.zn zm (.for (N:=us.length) (J:=fun k fr w=>fr=[(22,.slice au us.length cu),(7,.slice (some ⟨BE,0,none⟩) s.n s.n),(8,I (iQ us k)),(9,I (IntKind.i64.wrap (lV s us k))),(3,Pt b3),(5,Pt b5),(1,.slice aw ws.length cw)]∧∃C,(C.length=s.n∧∀v<s.n,gi C v=rY s us k v)∧(∀i<k,wL s us i)∧iQ us k≤3600000000000*k∧St H w (.blk BE (Is C):: .blk b5 [I n,.slice au us.length cu]:: .blk b3 [I s.many,.slice al s.dt.length cl]::σ)) ai ?_ ?_ ?_))))))))))
  ·exact .mk ⟨rfl,_,⟨bK,fun v hv=>by rw [eK _ _ hv];rfl⟩,fun i hi=>by omega,by simp [iQ,a8],hs⟩ (hs:= .cons rfl (.cons rfl (.cons rfl (.cons rfl (.cons rfl (.da rfl (by simp [lV,a8,pH]) aM))))))
  ·rintro k fr w hk ⟨rfl,C,⟨Kr,El⟩,FG,Wz,hs⟩;have hx:=IH hk;have aaI:us.length≤400:=by omega
   refine .block (.af (.z zm (.ixX (enc:=Use.c) hs hU rfl rfl dq jL hx rfl ?_)));intro z6 o27 nS;refine .q hs (cj (vs:=(gu us k).c) rfl isAgg199 jL nS) (.o (.alloc hs Gb rfl fun yE w hs=>?_));refine .z zg (.o (.aJ (vs:=(gu us k).c) hs rfl rfl jL fun w hs=>?_));refine .nil (.seq (.cut (fun fs w=>∃p,lr fs ⟨110,[],[(58,.bool p),(11,Pt yE),(24,I (k:Int)),(23,I (us.length:Int)),(22,.slice au us.length cu),(7,.slice (some ⟨BE,0,none⟩) s.n s.n),(8,I (iQ us k)),(9,I (IntKind.i64.wrap (lV s us k))),(3,Pt b3),(5,Pt b5),(1,.slice aw ws.length cw)]⟩∧(p=true→¬wL s us k)∧(p=false→wL s us k)∧St H w (.blk yE (gu us k).c:: .blk BE (Is C):: .blk b5 [I n,.slice au us.length cu]:: .blk b3 [I s.many,.slice al s.dt.length cl]::σ)) ?_ ?_))
   ·refine .draw mix rfl hs fun w hs=>?_
    refine .zw 0 rfl (zfa iL) ?_;refine .y 1 rfl hs aj ?_;refine .z 2 rfl (zfa cn) ?_;refine .y 3 rfl hs fc ?_;refine .z 4 rfl (dk bj) ?_;refine .z 5 rfl gE ?_;refine .E 6 hs ?_;refine .call PD rfl (ff hs) ?_;rintro _ w ⟨rfl,hs⟩;refine .go (.zw 7 rfl fE ?_);refine .z 8 rfl zm ?_;refine .bif (t':=37) rfl (fun tj=>?_) (fun tj=>?_)
    ·refine .F 9 rfl (.F 10 rfl (.F 11 rfl (.F 12 rfl (.zw 13 rfl zpT ?_))));refine .z 14 rfl zm ?_;refine .F 15 rfl (.F 16 rfl ?_);refine .F 17 rfl (.F 18 rfl (.F 19 rfl (.F 20 rfl (.F 21 rfl (.F 22 rfl (.F 23 rfl (.F 24 rfl (.F 25 rfl (.F 26 rfl (.F 27 rfl (.F 28 rfl (.zw 29 rfl zpT ?_))))))))))));refine .D hs ?_;exact nT ⟨_,aM,by
      intro hp hU;have h1:=hU.l0;have h2:=hU.l1;have h3:=hU.t0;have h4:=hU.t1;have h5:=hU.ord;first
       |(cases hp;done)
       |(have:=dE.1 tj;omega)
       |(have:=dE.1 uy;omega)
       |(have:=of_decide_eq_true hp;have:=h5 ai;omega),by
      intro hp;first
       |(cases hp;done)
       |exact ⟨by have:=bI.1 tj;omega,by have:=bI.1 tj;omega,by have:=bI.1 uy;omega,by have:=bI.1 uy;omega,fun h=>by first|omega|(have:=of_decide_eq_false hp;omega)⟩,hs⟩
    ·refine .zw 9 rfl (zfa ft) ?_;refine .y 10 rfl hs aj ?_;refine .E 11 hs ?_;refine .call PD rfl (ff hs) ?_;rintro _ w ⟨rfl,hs⟩;refine .go (.zw 12 rfl fE ?_);refine .z 13 rfl zpF ?_;refine .z 14 rfl zm ?_;refine .bif (t':=43) rfl (fun uy=>?_) (fun uy=>?_)
     ·refine .F 15 rfl (.F 16 rfl ?_);refine .F 17 rfl (.F 18 rfl (.F 19 rfl (.F 20 rfl (.F 21 rfl (.F 22 rfl (.F 23 rfl (.F 24 rfl (.F 25 rfl (.F 26 rfl (.F 27 rfl (.F 28 rfl (.zw 29 rfl zpT ?_))))))))))));refine .D hs ?_;exact nT ⟨_,aM,by
       intro hp hU;have h1:=hU.l0;have h2:=hU.l1;have h3:=hU.t0;have h4:=hU.t1;have h5:=hU.ord;first
        |(cases hp;done)
        |(have:=dE.1 tj;omega)
        |(have:=dE.1 uy;omega)
        |(have:=of_decide_eq_true hp;have:=h5 ai;omega),by
       intro hp;first
        |(cases hp;done)
        |exact ⟨by have:=bI.1 tj;omega,by have:=bI.1 tj;omega,by have:=bI.1 uy;omega,by have:=bI.1 uy;omega,fun h=>by first|omega|(have:=of_decide_eq_false hp;omega)⟩,hs⟩
     ·refine .zw 15 rfl zm ?_;refine .z 16 rfl ld ?_;refine .z 17 rfl zm ?_;refine .ie (t':=46) rfl (fun JR=>?_) (fun JR=>?_)
      ·refine .zw 18 rfl (zfa ez) ?_;refine .y 19 rfl hs o9 ?_;refine .z 20 rfl zm ?_;refine .z 21 rfl gE ?_;refine .ixX (enc:=Use.c) (i:=22) hs rfl aD (.some rfl rfl) hU rfl rfl dq jL (IH (i:=k - 1) ai) ai ?_;intro b51 o51 B3;refine .zw 23 rfl (zfa iL) (.r (i:=24) hs rfl aD (.some rfl rfl) (aF rfl aj (B3.get 0 rfl)) ?_);refine .zw 25 rfl (zfa iL) ?_;refine .y 26 rfl hs aj ?_;refine .z 27 rfl tN ?_;refine .z 28 rfl zpT ?_;refine .z 29 rfl zpF ?_;refine .D hs ?_;exact nT ⟨_,aM,by
        intro hp hU;have h1:=hU.l0;have h2:=hU.l1;have h3:=hU.t0;have h4:=hU.t1;have h5:=hU.ord;first
         |(cases hp;done)
         |(have:=dE.1 tj;omega)
         |(have:=dE.1 uy;omega)
         |(have:=of_decide_eq_true hp;have:=h5 ai;omega),by
        intro hp;first
         |(cases hp;done)
         |exact ⟨by have:=bI.1 tj;omega,by have:=bI.1 tj;omega,by have:=bI.1 uy;omega,by have:=bI.1 uy;omega,fun h=>by first|omega|(have:=of_decide_eq_false hp;omega)⟩,hs⟩
      ·refine .F 18 rfl (.F 19 rfl (.F 20 rfl (.F 21 rfl (.F 22 rfl (.F 23 rfl (.F 24 rfl (.F 25 rfl (.F 26 rfl (.F 27 rfl (.zw 28 rfl zpF ?_))))))))));refine .z 29 rfl zpF ?_;refine .D hs ?_;exact nT ⟨_,aM,by
        intro hp hU;have h1:=hU.l0;have h2:=hU.l1;have h3:=hU.t0;have h4:=hU.t1;have h5:=hU.ord;first
         |(cases hp;done)
         |(have:=dE.1 tj;omega)
         |(have:=dE.1 uy;omega)
         |(have:=of_decide_eq_true hp;have:=h5 ai;omega),by
        intro hp;first
         |(cases hp;done)
         |exact ⟨by have:=bI.1 tj;omega,by have:=bI.1 tj;omega,by have:=bI.1 uy;omega,by have:=bI.1 uy;omega,fun h=>by first|omega|(have:=of_decide_eq_false hp;omega)⟩,hs⟩
   ·rintro fs w ⟨p,gP,zQ,uO,hs⟩;refine WE.sub ?_ gP;refine (.cond rfl (fun zh=>?_) (fun zh=>?_))
    ·exact .af (.zn zg (.ret (rT (rB (rT (rB (rT (Fin.bu results254 rfl ⟨H,false,HLe.refl H,rfl,⟨fun h=>(by cases h),fun h=>(zQ zh (h.use k hk)).elim⟩,hs.out⟩))))))))
    ·refine .skip (nT (.af ?_));have Mu:=uO (by simpa using zh);have OW:∀i<k+1,wL s us i:=fun i hi=>by
      by_cases e:i=k
      ·subst e;exact Mu
      ·exact FG i ai
     have hTp:=EH FG;have T7:=Mu.t0;have ht1:=Mu.t1;have Kl:=Mu.l0;have LS:=Mu.l1;have Nj:=IT (ls:=s.dt) (i:=(gu us k).l.toNat) ai;obtain ⟨⟨xa0,xa1⟩,⟨xb0,xb1⟩,xne,xM,-⟩:=aU.lim _ (List.mem_of_getElem? Nj);have S8:lV s us (k+1)=lV s us k+(gu us k).t*(ul s us k).M:=rfl;have Xx:iQ us (k+1)=iQ us k+(gu us k).t:=rfl;change 0≤(ul s us k).A at xa0;change (ul s us k).A≤s.many at xa1;change 0≤(ul s us k).B at xb0;change (ul s us k).B≤s.many at xb1;change (ul s us k).A≠(ul s us k).B at xne;change -20000≤(ul s us k).M∧(ul s us k).M≤20000 at xM;have JH:(gu us k).t* -20000≤(gu us k).t*(ul s us k).M:=Int.mul_le_mul_of_nonneg_left xM.1 ai;have Rs:(gu us k).t*(ul s us k).M≤(gu us k).t*20000:=Int.mul_le_mul_of_nonneg_left xM.2 ai;have Uz:=DG FG (ul s us k).B.toNat;have hia:=DG FG (ul s us k).A.toNat;have Sd:(ul s us k).A.toNat<s.n:=by omega
     have Sc:(ul s us k).B.toNat<s.n:=by omega
     have hgA:=El _ Sd;have hgB:=El _ Sc;refine .z (zfa cn) (.y hs (zld fc) (.z (zfa iL) (.y hs (zld aj) (.ixX (enc:=Lim.c) hs hr rfl rfl bj cD Nj ai ?_))));intro VE o63 oq;refine .q hs (cj (vs:=(ul s us k).c) rfl kT cD oq) (.o (.alloc hs gz rfl fun En w hs=>?_));refine .o (.aJ (vs:=(ul s us k).c) hs rfl rfl cD fun w hs=>?_);refine .nil (.seq (.draw mix rfl hs fun w hs=>?_));refine .zw 0 rfl zm ?_;refine .z 1 rfl (zfa eZ) ?_;refine .y 2 rfl hs aj ?_;refine .zw 3 rfl (eH (k:=(ul s us k).B.toNat) rfl rfl ae ak ai Sc) (.y 4 rfl hs aj ?_);refine .z 5 rfl (zfa ft) ?_;refine .y 6 rfl hs aj ?_;refine .z 7 rfl cV ?_;refine .zw 8 rfl (eH (k:=(ul s us k).B.toNat) rfl rfl ae ak ai Sc) (.E 9 hs ?_);refine .store hs rfl rfl ak ?_;intro w hs;refine .go (.D hs ?_);have Sb:(C.set (ul s us k).B.toNat (gi C (ul s us k).B.toNat+(gu us k).t)).length=s.n:=by rw [List.length_set];exact Kr
     have Sa:∀v,gi (C.set (ul s us k).B.toNat (gi C (ul s us k).B.toNat+(gu us k).t)) v=if v=(ul s us k).B.toNat then gi C (ul s us k).B.toNat+(gu us k).t else gi C v:=fun v=>fi ai _ v
     generalize C.set (ul s us k).B.toNat (gi C (ul s us k).B.toNat+(gu us k).t)=D at hs Sb Sa;have Yo:gi D (ul s us k).A.toNat=gi C (ul s us k).A.toNat:=by rw [Sa,if_neg ai]
     refine .seq (.draw mix rfl hs fun w hs=>?_);refine .zw 0 rfl zm ?_;refine .z 1 rfl (zfa eN) ?_;refine .y 2 rfl hs aj ?_;refine .zw 3 rfl (eH (k:=(ul s us k).A.toNat) rfl rfl ae ak ai Sd) (.y 4 rfl hs aj ?_);refine .z 5 rfl (zfa ft) ?_;refine .y 6 rfl hs aj ?_;refine .z 7 rfl gE ?_;refine .zw 8 rfl (eH (k:=(ul s us k).A.toNat) rfl rfl ae ak ai Sd) (.E 9 hs ?_);refine .store hs rfl rfl ak ?_;intro w hs;refine .go (.D hs (.af (.z zm (.z (zfa ft) (.y hs (zld aj) (.z cV (.zn zg (.region (.z zm (.z (zfa ft) (.y hs (zld aj) (.z (zfa fN) (.y hs (zld aj) (.z la (.q hs (Jp rfl rfl) ?_)))))))))))))));rw [uo];refine .zn zg (nB (nT ?_));exact .mk ⟨rfl,D.set (ul s us k).A.toNat (gi D (ul s us k).A.toNat - (gu us k).t),⟨by rw [List.length_set];exact Sb,fun v hv=>by
      have Iz:rY s us (k+1) v=rY s us k v+(gu us k).t*(ind (ul s us k).B.toNat v - ind (ul s us k).A.toNat v):=rfl;rw [fi ai,Iz,←El v hv];by_cases e1:v=(ul s us k).A.toNat
      ·have i1:ind (ul s us k).A.toNat v=1:=by unfold ind;rw [if_pos e1.symm]
       have i2:ind (ul s us k).B.toNat v=0:=by unfold ind;rw [if_neg ai]
       rw [if_pos e1,Yo,i1,i2,e1];omega
      ·have i1:ind (ul s us k).A.toNat v=0:=by unfold ind;rw [if_neg ai]
       rw [if_neg e1,Sa,i1];by_cases e2:v=(ul s us k).B.toNat
       ·have i2:ind (ul s us k).B.toNat v=1:=by unfold ind;rw [if_pos e2.symm]
        rw [if_pos e2,i2,e2];omega
       ·have i2:ind (ul s us k).B.toNat v=0:=by unfold ind;rw [if_neg ai]
        rw [if_neg e2,i2];omega⟩,OW,ai,hs.sb⟩ (hs:= .cons rfl (.cons rfl (.cons rfl (.cons rfl (.da rfl Xx.symm (.da rfl (by rw [S8]) aM))))))
  ·rintro fr w ⟨rfl,C,⟨Kr,El⟩,FG,Wz,hs⟩;have hlen:us.length≤400:=by omega
   obtain ⟨H1,az,Y5,hs⟩:=hs.dn (b:=BE) (c:=Is C) .here;have hRC:RI H1 (.slice (some ⟨BE,0,none⟩) s.n s.n) C:=by
    have:=Row.RI (xs:=C) (spare:=[]) (by simpa using Y5) s.n ai ai
    rwa [Kr] at this
   have JT:=RI.tail hRC (k:=1) (by have:=s.AO;omega);have R5:=RI.tail (oS.mono az) (k:=1) (by have:=s.AO;omega);have zR:=zZ aU FG;have heq:C.drop 1=ws.drop 1↔∀v,1≤v→v<s.n→rY s us us.length v=gi ws v:=by
    constructor
    ·intro h v h1 h2;rw [←El v h2];have:=congrArg (fun l=>gi l (v - 1)) h;simpa [gi,List.getD,show 1+(v - 1)=v by omega,show v - 1+1=v by omega] using this
    ·intro h;refine DV (by simp [Kr,BC]) fun k hk=>?_
     have tE:k+1<s.n:=by simp at hk;omega
     have:=h (k+1) ai tE;rw [←El _ tE] at this;simpa [gi,List.getD,Nat.add_comm] using this
   refine nT (.seq (.draw mix rfl hs fun w hs=>?_));refine .zw 0 rfl zm ?_;refine .z 1 rfl pc ?_;refine .z 2 rfl zm ?_;refine .ie (t':=97) rfl (fun wc=>?_) (fun wc=>?_)
   ·refine .zw 3 rfl zm (.zw 4 rfl (vi (k:=1) rfl rfl ae ak rfl (by have:=s.AO;omega)) ?_);refine .zw 5 rfl zm (.zw 6 rfl (vi (k:=1) rfl rfl ae ak rfl (by have:=s.AO;omega)) ?_);refine .E 7 hs ?_;refine .call call279 rfl (yP hs JT R5) ?_;rintro _ w ⟨rfl,hs⟩;refine .go (.zw 8 rfl zpT ?_);refine .z 9 rfl zm ?_;refine .bif (t':=104) rfl (fun IF=>?_) (fun IF=>?_)
    ·refine .zw 10 rfl zm ?_;refine .z 11 rfl (zfa eX) ?_;refine .y 12 rfl hs aj ?_;refine .z 13 rfl fJ ?_;refine .z 14 rfl zpT ?_;refine .z 15 rfl zg ?_;refine .D hs ?_;refine .ret (Fin.bu results254 rfl ?_);exact ⟨H1,_,az,rfl,by
      first
       |exact ⟨fun h=>(by cases h),fun h=>(wc h.tot).elim⟩
       |exact ⟨fun h=>(by cases h),fun h=>by have:=heq.2 h.into;simp_all⟩
       |(rw [lI ai]
         have he:C.drop 1=ws.drop 1:=by simpa using IF
         exact ⟨fun h=>⟨hlen,FG,wc,heq.1 he,of_decide_eq_true h⟩,fun h=>decide_eq_true h.bound⟩),hs.out⟩
    ·refine .F 10 rfl (.F 11 rfl (.F 12 rfl (.F 13 rfl (.zw 14 rfl zpF ?_))));refine .z 15 rfl zg ?_;refine .D hs ?_;refine .ret (Fin.bu results254 rfl ?_);exact ⟨H1,_,az,rfl,by
      first
       |exact ⟨fun h=>(by cases h),fun h=>(wc h.tot).elim⟩
       |exact ⟨fun h=>(by cases h),fun h=>by have:=heq.2 h.into;simp_all⟩
       |(rw [lI ai]
         have he:C.drop 1=ws.drop 1:=by simpa using IF
         exact ⟨fun h=>⟨hlen,FG,wc,heq.1 he,of_decide_eq_true h⟩,fun h=>decide_eq_true h.bound⟩),hs.out⟩
   ·refine .F 3 rfl (.F 4 rfl (.F 5 rfl (.F 6 rfl (.F 7 rfl (.zw 8 rfl zpF ?_)))));refine .z 9 rfl zm ?_;refine .F 10 rfl (.F 11 rfl (.F 12 rfl (.F 13 rfl (.zw 14 rfl zpF ?_))));refine .z 15 rfl zg ?_;refine .D hs ?_;refine .ret (Fin.bu results254 rfl ?_);exact ⟨H1,_,az,rfl,by
     first
      |exact ⟨fun h=>(by cases h),fun h=>(wc h.tot).elim⟩
      |exact ⟨fun h=>(by cases h),fun h=>by have:=heq.2 h.into;simp_all⟩
      |(rw [lI ai]
        have he:C.drop 1=ws.drop 1:=by simpa using IF
        exact ⟨fun h=>⟨hlen,FG,wc,heq.1 he,of_decide_eq_true h⟩,fun h=>decide_eq_true h.bound⟩),hs.out⟩
theorem sA{w:World}{v:Value}{s:dz}{n:Int}(hs:St H w σ)(hr:RSy H v s)(oS:RI H vw ws)(hp:RPf H vp n us):
  ab8 203 [v,vw,vp] w fun v w'=>∃H1 e,HLe H H1∧v=I e∧CV s ws n us e∧St H1 w' σ:=by
 obtain ⟨u,rfl,hr⟩:=hr;obtain ⟨al,cl,rfl⟩:=RL.shape hr;obtain ⟨aw,cw,rfl⟩:=RI.shape oS;obtain ⟨uu,rfl,hU⟩:=hp;obtain ⟨au,cu,rfl⟩:=RU.shape hU;refine Cl.o func203 ntmps203 ag3 ?_;refine .af (.bx hs fun b3 w hs=>?_);refine .bx hs fun b5 w hs=>?_
 refine .zn zg (.seq (.af (.y hs (zls [_,_] bT aQ) (.z zm (.o (.call call222 rfl (lU (s:=s) hs ⟨_,rfl,hr⟩ oS) ?_))))));rintro _ w ⟨rfl,hs⟩;refine .zn zg (.af (.z zm (.zn fU (.dK rfl (fun fk=>?_) (fun fk=>?_)))))
 ·exact .af (.z zm (.zn zg (.ret (rT (Fin.bu results203 rfl ⟨H,_,HLe.refl H,rfl,.ask fk,hs.out⟩)))))
 ·refine .skip (nT (.seq (.af (.y hs (zls [_,_] bT aQ) (.z zm (.y hs (zls [_,_] eF bQ) ?_))))));have hA:eS s ws=0:=by simpa using fk
  refine .o (.call call254 rfl (wz (s:=s) (n:=n) (us:=us) hs ⟨_,rfl,hr⟩ oS ⟨_,rfl,hU⟩ hA) ?_);rintro _ w ⟨H1,b,az,rfl,hb,hs⟩;refine .zn fE (.cond rfl (fun im=>?_) (fun im=>?_))
  ·exact .af (.zn zg (.ret (rT (Fin.bu results203 rfl ⟨H1,_,az,rfl,.bad hA (fun h=>by rw [hb.2 h] at im;cases im),hs.out⟩))))
  ·exact .skip (nT (.af (.zn zg (.ret (Fin.bu results203 rfl ⟨H1,_,az,rfl,.ok hA (hb.1 (by simpa using im)),hs.out⟩)))))
theorem oB{w:World}{v:Value}{l:List Int}(hs:St H w (en::σ))(ho:dj 1 v (Is l) en)(hl:l.length≤1000000):
  ab8 270 [v] w fun _ w'=>∃l5,dj 1 v (Is l.reverse) l5∧St H w' (l5::σ):=by
 rcases ho with ⟨a,rfl,h2,rfl⟩|⟨b,len,cap,sp,rfl,rfl,h2,h3,h4⟩
 ·obtain rfl:l=[]:=by
   have:=congrArg List.length h2;exact List.length_eq_zero_iff.1 (by simpa using this)
  have hs:=hs.tail;refine Cl.o func270 ntmps270 ag1 ?_;refine .af (.z zm (.z (dk ae) (.z gE (.z zg (.zn zg (.block (.loop (fun _:Unit=>⟨28,[],[(2,I 0),(3,I (-1))]⟩) (fun _ w=>St H w σ) (fun _=>0) () aM hs ?_)))))));rintro _ w hs;refine .seq (.af (.z zm (.z zm (.zn gV (.bA rfl (fun om=>?_) (fun om=>?_))))))
  ·omega
  ·exact .exit (xT (xT (xB (Fin.FR results270 ⟨.nul,.nil 1 a,hs.nul⟩))))
 obtain rfl:len=l.length:=by simpa using h2.symm
 refine Cl.o func270 ntmps270 ag1 ?_;refine .af (.z zm (.z (dk ae) (.z gE (.z zg (.zn zg (.block (.loop (fun p:Nat×List Int=>⟨28,[],[(2,I p.1),(3,I ((l.length:Int) - 1 - p.1)),(0,.slice (some ⟨b,0,none⟩) l.length cap)]⟩) (fun p w=>(2*p.1≤l.length+1∧sH l p.2 p.1)∧St H w (.blk b (Is p.2++sp)::σ)) (fun p=>l.length - p.1) (0,l) (.cons rfl (.da rfl bK (.cons rfl (.nil rfl rfl)))) ⟨⟨bK,.start l⟩,hs⟩ ?_)))))));rintro ⟨i,L⟩ w ⟨⟨h5,h6⟩,hs⟩;dsimp only at h5 h6 hs ⊢;have hL:=h6.1;refine .seq (.af (.z zm (.z zm (.zn gV (.bA rfl (fun om=>?_) (fun om=>?_))))))
 ·refine .skip (nT (.seq (.block (.draw mix rfl hs fun w hs=>?_))));refine .zw 0 rfl zm ?_;refine .z 1 rfl zm ?_;refine .z 2 rfl zm ?_;refine .z 3 rfl zm ?_;refine .z 4 rfl zm ?_;refine .z 5 rfl zm ?_;refine .zw 6 rfl (eH (k:=l.length - 1 - i) rfl rfl ae ak ai ai) (.load (i:=7) hs rfl aD .none rfl aj ?_ (hv:=ik ai sp));refine .zw 8 rfl zm ?_;refine .z 9 rfl zm ?_;first|(refine .ixv 10 rfl hs ae ak ?_;intro uQ o24 jw)|refine .z 10 rfl (zix ae ak) ?_
  refine .load (i:=11) hs rfl aD .none rfl aj ?_ (hv:=ik ai sp);first|(refine .ixv 12 rfl hs ae ak ?_;intro Tk o26 jm)|refine .z 12 rfl (zix ae ak) ?_
  refine .E 13 hs ?_;refine .store hs rfl rfl ak ?_ dC (by simp;omega) (kM ai sp _);intro w hs;refine .go (.zw 14 rfl (eH (k:=l.length - 1 - i) rfl rfl ae ak ai ai) (.E 15 hs ?_));refine .store hs rfl rfl ak ?_ dC (by simp;omega) (kM (by simp;omega) sp _);intro w hs;exact .go (.D hs (nB (nT (.region (.z zm (.z cV (.z zm (.z gE (.z zg (.zn zg (nT ⟨(i+1,_),.cons rfl (.da rfl (by push_cast;omega) (.cons rfl (.nil rfl rfl))),⟨⟨by dsimp only;omega,h6.step ai⟩,hs⟩,by dsimp only;omega⟩)))))))))))
 ·refine .exit (xT (xT (xB ?_)));rw [h6.done ai] at hs;exact Fin.FR results270 ⟨_,.inr ⟨b,l.length,cap,sp,rfl,rfl,bK,by rw [←h3];simp,h4⟩,hs⟩
inductive Tp(s:dz)(xs:List Int):Int→Prop
 |bad (h:s.check≠0) (h1:xs=[]):Tp s xs s.check
 |sound (h:s.Ok) (h1:s.Sound) (h2:xs=[]):Tp s xs 0
 |chain {st:BS} {x:Arc} {z k:Nat} (h:s.Ok) (h1:¬s.Sound) (h2:VR s.n s.dL st (some x)) (h3:z=ue st.by_ x.t (s.n+1)) (h4:1≤k) (h5:k≤s.n) (h6:ue st.by_ z k=z) (h7:xs=(DH st.by_ z k).reverse):Tp s xs 0
theorem Tp.KK{s:dz}(h:Tp s xs 0):xs=[]↔s.Sound:=by
 generalize hz:(0:Int)=y at h
 cases h with
 |bad h=>exact (h hz.symm).elim
 |sound _ h1 h2=>exact ⟨fun _=>h1,fun _=>h2⟩
 | @chain st x z k _ h1 _ _ h4 _ _ h7=>exact ⟨fun h=>by
   have:=congrArg List.length (h7.symm.trans h);rw [List.length_reverse,rZ] at this;simp at this;omega,fun h=>(h1 h).elim⟩
set_option maxHeartbeats 4000000 in
theorem zr{w:World}{v:Value}{s:dz}(hs:St H w σ)(hr:RSy H v s):
  ab8 221 [v] w fun u w'=>∃H1 vx xs e,HLe H H1∧u= .tuple #[vx,I e]∧RI H1 vx xs∧Tp s xs e∧St H1 w' σ:=by
 obtain ⟨u,rfl,hr⟩:=hr;obtain ⟨al,cl,rfl⟩:=RL.shape hr;refine Cl.o func221 ntmps221 ag1 ?_;refine .af (.bx hs fun b1 w hs=>?_);refine .z zg (.zn zg (.seq (.af (.y hs (zls [_,_] bT aQ) (.o (.call call197 rfl (kR (s:=s) hs ⟨_,rfl,hr⟩) ?_))))));rintro _ w ⟨rfl,hs⟩;refine .zn zg (.af (.z zm (.zn fU (.dK rfl (fun kE=>?_) (fun kE=>?_)))))
 ·exact .af (.z zm (.z zg (.zn zg (.ret (rT (Fin.iz results221 rfl rfl ⟨H,_,[],_,HLe.refl H,rfl,RS.nil H 1 none 0,.bad kE rfl,hs.out⟩))))))
 ·refine .skip (nT (.seq (.draw mix rfl hs fun w hs=>?_)));refine .zw 0 rfl (zfa cz) ?_;refine .y 1 rfl hs aj ?_;refine .ys 2 rfl hs [_,_] bT aQ ?_;refine .E 3 hs ?_;have aU:s.Ok:=s.dr.1 (by simpa using kE);have vS:=aU.dL;have hn:s.n=s.many.toNat+1:=rfl;have Eh:=aU.m0;have JH:=aU.m1;refine .call call269 rfl (m8 (s:=s) hs aU ⟨_,rfl,hr⟩) ?_;rintro _ w ⟨H1,pb,az,rfl,ti,hs⟩;refine .go (.E 4 hs ?_);have PZ:=oJ (N:=s.many.toNat) hs ai (by rw [←hn];exact vS) ti call295;rw [Int.toNat_of_nonneg Eh] at PZ;refine .call call225 rfl PZ ?_;rintro _ w ⟨H2,bc,bb,st,ov,vo,bp,rfl,Kk,SX,hs⟩;obtain ⟨a',rfl,Qj⟩:=Kk.ptr;refine .go (.zw 5 rfl zm ?_);refine .z 6 rfl zex ?_;refine .z 7 rfl zex ?_;refine .z 8 rfl zex ?_;refine .z 9 rfl zg ?_;refine .z 10 rfl zg ?_;refine .z 11 rfl zg ?_;refine .D hs ?_;refine .seq (.af (.z zm (.q hs (K3 rfl rfl runUnderlying268) (.nil (.cond rfl (fun jm=>?_) (fun jm=>?_))))))
  ·refine .af (.z zg (.zn zg (.ret (rT (Fin.iz results221 rfl rfl ?_)))));exact ⟨H2,_,[],0,az.trans bp,rfl,RS.nil H2 1 none 0,.sound aU (by
    obtain ⟨r,Nn,A0⟩:=SX
    cases ov with
    |none=>exact ⟨_,(Nn.sol (by rw [←hn];exact vS) ai).1⟩
    |some x=>rw [Qj] at jm;cases jm) rfl,hs.out⟩
  ·refine .skip (nT (.af (.z zm ?_)));obtain ⟨x,rfl⟩:=OvR.yes Qj jm;obtain ⟨b3,e3,uv⟩:=Kk;cases e3
   have Ug:cellAt H2 b3 1=some (I x.t):=uv.at 1;have P0:s.many+2=((s.many.toNat+2:Nat):Int):=by omega
   have Uk:¬s.Sound:=by
    obtain ⟨r,Nn,A0⟩:=SX;exact Nn.none (by rw [←hn];exact vS) ai (by have:=A0 bK;omega)
   obtain ⟨Ei,XP,Gh⟩:st.by_.length=s.many.toNat+1∧(∀v<s.many.toNat+1,(ga st.by_ v).f<s.many.toNat+1)∧x.t<s.many.toNat+1:=by
    obtain ⟨r,Nn,A0⟩:=SX;exact ⟨Nn.lb,fun v hv=>(Nn.rg v hv).1,(vS.2 x (Nn.ovm x rfl)).2.1⟩
   have Kj:=fun k=>Dy XP Gh k
   refine .z znc (.z (zfa eu) (.q hs (aF rfl aj Ug) (.zn zg (.seq (.af (.z (zfa cz) (.y hs (zld aj) (.z cV ?_))))))));rw [P0];refine .zn zm (.for (N:=s.many.toNat+2) (J:=fun k fr w=>fr=[(8,I (ue st.by_ x.t k)),(6,.slice (some ⟨bb,0,none⟩) (s.many.toNat+1) (s.many.toNat+1))]∧St H2 w (.blk bc (Is st.cost):: .blk bb (lX st.by_):: .blk b1 [I s.many,.slice al s.dt.length cl]::σ)) ai ?_ ?_ ?_)
   ·exact .mk ⟨rfl,hs⟩
   ·rintro k fr w hk ⟨rfl,hs⟩;refine .block (.region (.z zm (.z zm (.q hs (Cu (k:=ue st.by_ x.t k) rfl rfl aN bD rfl (Kj k)) (.z (zfa dV) (.q hs (eQ rfl aj (.there .here) (wO (j:=0) (by rw [Ei];exact Kj k) eA)) ?_))))));exact .zn zg (nB (nT (.mk ⟨rfl,hs.out⟩)))
   ·rintro fr w ⟨rfl,hs⟩;obtain ⟨pd,zQ,uO,aaS⟩:=Jv XP Gh (m:=s.many.toNat+2) ai;have Xp:=Kj (s.many.toNat+2);generalize hz:ue st.by_ x.t (s.many.toNat+2)=z at aaS Xp ⊢;have PQ:=fun k=>Dy XP Xp k
    refine nT (.af (.zn zg (.seq (.af (.z zm (.zn zg (.block ?_)))))));refine .loop (fun p:Nat×Value=>⟨62,[],[(9,p.2),(8,I (ue st.by_ z p.1)),(10,I z),(6,.slice (some ⟨bb,0,none⟩) (s.many.toNat+1) (s.many.toNat+1))]⟩)
     (fun p w=>p.1<pd∧∃en,dj 1 p.2 (Is (DH st.by_ z p.1)) en∧St H2 w (en:: .blk bc (Is st.cost):: .blk bb (lX st.by_):: .blk b1 [I s.many,.slice al s.dt.length cl]::σ))
     (fun p=>pd - p.1) (0,.slice none 0 0) aM
     ⟨ai,_,.nil 1 none,hs.nul⟩ ?_
    rintro ⟨k,v9⟩ w ⟨hk,en,hO,hs⟩;dsimp only at hk hO ⊢;refine .block (.af (.z zm (.z zm (.z zm (.q hs (Cu (k:=ue st.by_ z k) rfl rfl aN bD rfl (PQ k)) (.z (zfa eU) (.q hs (eQ rfl aj (.there (.there .here)) (wO (j:=3) (by rw [Ei];exact PQ k) eA)) ?_)))))));refine .o (.buildSlice (cells:=[_]) hs dw rfl rfl fun ZK w hs=>?_);refine .o (.append (ys:=[I (ga st.by_ (ue st.by_ z k)).l]) hs df rfl rfl hO (.own .here rfl rfl) (by simp [Value.oneCell']) (fun l' h=>by simp [DH] at h;omega) ?_);intro v50 en50 w eG hs;refine .zn zg (.af (.z zm (.z zm (.q hs (Cu (k:=ue st.by_ z k) rfl rfl aN bD rfl (PQ k)) (.z (zfa dV) (.q hs (eQ rfl aj (by repeat (first|exact .here|refine .there ?_)) (wO (j:=0) (by rw [Ei];exact PQ k) eA)) ?_))))));refine .zn zg (.af (.z zm (.z zm (.zn fJ (.bA rfl (fun zh=>?_) (fun zh=>?_))))))
    ·refine .exit (xN (xT (xB (nT (.af (.z zm ?_))))));have iZ:dj 1 v50 (Is (DH st.by_ z (k+1))) en50:=by rw [Cy];simpa [Is] using eG
     have hkz:ue st.by_ z (k+1)=z:=by
      have h3:((ga st.by_ (ue st.by_ z k)).f:Int)=z:=by simpa using zh
      show (ga st.by_ (ue st.by_ z k)).f=z;omega
     refine .o (.call call270 rfl (oB hs iZ (by rw [rZ];omega)) ?_);rintro _ w ⟨l5,q8,hs⟩;refine .nil (.af (.z zm (.z zg (.zn zg (.ret (Fin.iz results221 rfl rfl ?_))))));obtain ⟨H3,cZ,hRI,hs⟩:=dj.eI q8 (by rw [List.length_reverse,rZ];omega) hs .here;exact ⟨H3,_,_,0,az.trans (bp.trans cZ),rfl,hRI,.chain aU Uk (by rw [hn];exact SX) (by rw [hn];exact hz.symm) ai ai hkz rfl,hs.sb⟩
    ·refine .skip (nB (nT ?_));exact ⟨(k+1,v50),aM,⟨by
      dsimp only;have:k+1≠pd:=fun e=>zh (congrArg (Nat.cast:Nat→Int) (show ue st.by_ z (k+1)=z by rw [e];exact aaS))
      omega,en50,by rw [Cy];simpa [Is] using eG,hs.sb⟩,by dsimp only;omega⟩
structure Na(s:dz)(x:List Int):Prop where
 len:x.length=s.n
 zero:gi x 0=0
 free:∀v<s.n,-1000000000≤gi x v∧gi x v≤1000000000
 Em:jU s.dL (gi x)
theorem mS{w:World}{v:Value}{s:dz}(hs:St H w σ)(hr:RSy H v s):
  ab8 147 [v] w fun u w'=>∃H1 vt e,HLe H H1∧u= .tuple #[vt,I e]∧((s.check≠0∧e=s.check∧vt= .slice none 0 0)∨(s.Ok∧¬s.Sound∧e=23∧vt= .slice none 0 0)∨(s.Ok∧s.Sound∧e=0∧∃rs,RT H1 vt rs∧Sq s.n rs∧kY s.n s.dL (gt rs)))∧St H1 w' σ:=by
 obtain ⟨ul,rfl,hl⟩:=hr;obtain ⟨al,cl,rfl⟩:=RL.shape hl;refine Cl.o func147 ntmps147 ag1 ?_;refine .af (.bx hs fun b1 w hs=>?_);refine .z zg (.zn zg (.af (.y hs (zls [_,_] bT aQ) (.o (.call call206 rfl (qB (s:=s) hs ⟨_,rfl,hl⟩) ?_)))));rintro _ w ⟨rfl,hs⟩;refine .zn zg (.seq (.af (.z zm (.zn fU (.dK rfl (fun om=>?_) (fun om=>?_))))))
 ·exact .af (.z zm (.z zg (.zn zg (.ret (rT (Fin.iz results147 rfl rfl ⟨H,_,_,HLe.refl H,rfl,.inl ⟨om,rfl,rfl⟩,hs.out⟩))))))
 ·refine .skip (nT (.af (.y hs (zls [_,_] bT aQ) ?_)));have aU:s.Ok:=s.dr.1 (by simpa using om);have JH:=aU.m1;refine .o (.call call207 rfl (rL (s:=s) hs ⟨_,rfl,hl⟩ aU) ?_);rintro v12 w ⟨H1,rs,az,JT,Tb,R5,hs⟩;obtain ⟨at',ct,rfl⟩:=JT.shape;refine .zn zg (.seq (.af (.z zm (.o (.call call208 rfl (qA hs JT Tb (by simp only [dz.n];omega)) ?_)))));rintro _ w ⟨b,rfl,hb,hs⟩;have S8:=hb.trans (Cr aU R5).symm;refine .zn fE (.cond rfl (fun fq=>?_) (fun fq=>?_))
  ·exact .af (.z zg (.zn zg (.ret (rT (Fin.iz results147 rfl rfl ⟨H1,_,_,az,rfl,.inr (.inl ⟨aU,fun h=>by simp [S8.2 h] at fq,rfl,rfl⟩),hs.out⟩)))))
  ·exact .skip (nT (.af (.z zm (.z zg (.zn zg (.ret (Fin.iz results147 rfl rfl ⟨H1,_,_,az,rfl,.inr (.inr ⟨aU,S8.1 (by simpa using fq),rfl,rs,JT,Tb,R5⟩),hs.out⟩)))))))
inductive WY(s:dz)(x:List Int):Int→Prop
 |bad (h:s.check≠0):WY s x s.check
 |off (h:s.Ok) (h1:¬Na s x):WY s x 25
 |ok (h:s.Ok) (h1:Na s x):WY s x 0
theorem Eb{w:World}{v:Value}{ls:List Int}{q:Int→Prop}(hs:St H w σ)(hr:RI H v ls)
  (hc:∀args w,(callFunc g args).run Tryz.prog w= .ok (.enter g args) w) (hp:∀w l,St H w σ→ab8 g ([I l]++cap) w fun u w'=>∃b,u= .bool b∧(b=true↔q l)∧St H w' σ):
  ab8 228 [v,.func (.func g) #[] cap.toArray] w fun u w'=>∃i,u=I i∧(0≤i↔∃p∈ls,q p)∧St H w' σ:=by
 obtain ⟨a,c,rfl⟩:=RI.shape hr;have hl:=(RI.len hr).2.2;refine Cl.o func228 ntmps228 ag2 ?_;refine .af (.zn zg (.seq (.af (.z zm (.z (dk ae) (.zn zm (.for (N:=ls.length) (J:=fun k fr w=>fr=[(1,.func (.func g) #[] cap.toArray),(0,.slice a ls.length c)]∧St H w σ∧∀j<k,∀l,ls[j]? =some l→¬q l) ai ?_ ?_ ?_)))))))
 ·exact .mk ⟨rfl,hs,fun j hj=>by omega⟩
 ·rintro k fr w hk ⟨rfl,hs,fa⟩;obtain ⟨l,hl⟩:=nth hk;refine .block (.af (.z zm (.zn zg (.af (.z zm (.z zm (.z zm ?_)))))));first|(refine .ixv hs ae ak ?_;intro sF o14 kE)|refine .z (zix ae ak) ?_
  refine .y hs (zld aj) (.o (.sw (first:=[]) rfl rfl hc (hp _ _ hs) ?_));rintro _ w ⟨nD,rfl,sc,hs⟩;refine .nil (.cond rfl (fun dY=>?_) (fun dY=>?_))
  ·exact .af (.z zm (.zn zg (.ret (rB (rT (rB (rT (Fin.bu Px rfl ⟨_,rfl,⟨fun _=>⟨l,List.mem_of_getElem? hl,sc.1 dY⟩,fun _=>by omega⟩,hs⟩))))))))
  ·exact .skip (nB (nT (.mk ⟨rfl,hs,fW fa hl (fun h=>by rw [sc.2 h] at dY;cases dY)⟩)))
 ·rintro fr w ⟨rfl,hs,fa⟩;refine nT (.af (.zn zg (.ret (Fin.bu Px rfl ?_))));exact ⟨_,rfl,⟨fun h=>by omega,fun ⟨p,h1,h2⟩=>by
   obtain ⟨j,hj⟩:=List.getElem?_of_mem h1;exact (fa j (List.getElem?_eq_some_iff.1 hj).1 p hj h2).elim⟩,hs⟩
theorem zB{w:World}{v:Value}{ls:List Int}{q:Int→Prop}(hs:St H w σ)(hr:RI H v ls)
  (hc:∀args w,(callFunc g args).run Tryz.prog w= .ok (.enter g args) w) (hp:∀w l,St H w σ→ab8 g ([I l]++cap) w fun u w'=>∃b,u= .bool b∧(b=true↔q l)∧St H w' σ):
  ab8 185 [v,.func (.func g) #[] cap.toArray] w fun u w'=>∃b,u= .bool b∧(b=true↔∃p∈ls,q p)∧St H w' σ:=by
 refine Cl.o func185 ntmps185 ag2 ?_;refine .af (.zn zg (.af (.z zm (.z zm (.o (.call call228 rfl (Eb hs hr hc hp) ?_))))));rintro _ w ⟨i,rfl,hi,hs⟩;exact .z tN (.zn zg (.ret (Fin.bu results185 rfl ⟨_,rfl,by simp only [decide_eq_true_eq];exact hi,hs⟩)))
theorem wC{w:World}{n:Int}(hs:St H w σ):ab8 198 [I n] w fun v w'=>∃b,v= .bool b∧(b=true↔¬(-1000000000≤n∧n≤1000000000))∧St H w' σ:=by
 refine Cl.o func198 ntmps198 ag1 ?_;refine .af (.zn zg (.af (.z zm (.o (.call PD rfl (ff hs) ?_)))));rintro _ w ⟨rfl,hs⟩;exact .z fE (.zn zg (.ret (Fin.bu results198 rfl ⟨_,rfl,by simp;omega,hs⟩)))
theorem sB{w:World}{v vx:Value}{s:dz}{x:List Int}(hs:St H w σ)(hr:RSy H v s)(hx:RI H vx x):
  ab8 134 [v,vx] w fun u w'=>∃e,u=I e∧WY s x e∧St H w' σ:=by
 obtain ⟨ul,rfl,hl⟩:=hr;obtain ⟨al,cl,rfl⟩:=RL.shape hl;obtain ⟨ax,cx,rfl⟩:=RI.shape hx;refine Cl.o func134 ntmps134 ag2 ?_;refine .af (.bx hs fun b2 w hs=>?_);refine .zn zg (.seq (.af (.y hs (zls [_,_] bT aQ) (.o (.call call197 rfl (kR (s:=s) hs ⟨_,rfl,hl⟩) ?_)))));rintro _ w ⟨rfl,hs⟩;refine .zn zg (.af (.z zm (.zn fU ?_)))
 skip
 refine (.dK rfl (fun pM=>?_) (fun pM=>?_))
 ·exact .af (.z zm (.zn zg (.ret (rT (Fin.bu PB rfl ⟨_,rfl,.bad pM,hs.out⟩)))))
 ·refine .skip (nT (.seq (.af ?_)));have aU:s.Ok:=s.dr.1 (by simpa using pM);have Eh:=aU.m0;have JH:=aU.m1;have wS:=aU.len;have BY:(s.n:Int)=s.many+1:=by simp only [dz.n];omega
  refine .z zm (.z (dk ae) (.z (zfa cz) (.y hs (zld aj) (.z cV (.z fU (.z zm (.F1 (t':=19) rfl (fun DN=>?_) (fun DN=>?_))))))))
  ·refine .Fs 4 6 false (.z zpT (.z zm (.Fs 2 12 false (.zn zpT (.cT (.af (.zn zg (.ret (rT (Fin.bu PB rfl ?_))))))))));first
    |exact ⟨_,rfl,.ok aU ⟨ai,by first|omega|(simpa using A9),fun v hv=>pJ v ai,ig.2 fun y hy=>by
      obtain ⟨i,hi⟩:=List.getElem?_of_mem hy;exact h1 i (List.getElem?_eq_some_iff.1 hi).1 y hi⟩,hs.out⟩
    |exact ⟨_,rfl,.off aU (fun h=>by have:=h.len;omega),hs.out⟩
    |exact ⟨_,rfl,.off aU (fun h=>by have:=h.zero;first|omega|(simp at A9;omega)),hs.out⟩
    |exact ⟨_,rfl,.off aU (fun h=>by
      obtain ⟨p,h1,h2⟩:=we.1 kr;obtain ⟨i,hi⟩:=List.getElem?_of_mem h1;have qL:=(List.getElem?_eq_some_iff.1 hi).1;have:=bG qL;rw [hi] at this;cases this
      exact h2 (h.free i (by have:=h.len;omega))),hs.out⟩
    |exact ⟨_,rfl,.off aU (fun h=>by
      have h8:=ig.1 h.Em y (List.mem_of_getElem? hy);omega),hs.out⟩
  ·refine .T (.z zm (.T (.ixX (enc:=fun x=>[I x]) hs hx rfl rfl ae ak (bG (l:=x) (i:=0) ai) rfl ?_)));intro wV o21 jx;replace jx:=bJ.one jx;refine .T (.y hs (zld aj) (.T (.z fU (.z zpF (.z zm (.F1 (t':=25) rfl (fun A9=>?_) (fun A9=>?_)))))))
   ·refine .Fs 2 12 false (.zn zpT (.cT (.af (.zn zg (.ret (rT (Fin.bu PB rfl ?_)))))));first
     |exact ⟨_,rfl,.ok aU ⟨ai,by first|omega|(simpa using A9),fun v hv=>pJ v ai,ig.2 fun y hy=>by
       obtain ⟨i,hi⟩:=List.getElem?_of_mem hy;exact h1 i (List.getElem?_eq_some_iff.1 hi).1 y hi⟩,hs.out⟩
     |exact ⟨_,rfl,.off aU (fun h=>by have:=h.len;omega),hs.out⟩
     |exact ⟨_,rfl,.off aU (fun h=>by have:=h.zero;first|omega|(simp at A9;omega)),hs.out⟩
     |exact ⟨_,rfl,.off aU (fun h=>by
       obtain ⟨p,h1,h2⟩:=we.1 kr;obtain ⟨i,hi⟩:=List.getElem?_of_mem h1;have qL:=(List.getElem?_eq_some_iff.1 hi).1;have:=bG qL;rw [hi] at this;cases this
       exact h2 (h.free i (by have:=h.len;omega))),hs.out⟩
     |exact ⟨_,rfl,.off aU (fun h=>by
       have h8:=ig.1 h.Em y (List.mem_of_getElem? hy);omega),hs.out⟩
   ·refine .T (.z zm (.T (.o (.call call185 rfl (zB (q:=fun n=>¬(-1000000000≤n∧n≤1000000000)) (cap:=[]) hs hx call198 (fun w n hs=>wC hs)) ?_))));rintro _ w ⟨z6,rfl,we,hs⟩;refine .zn zpF (.cond rfl (fun kr=>?_) (fun kr=>?_))
    ·refine .af (.zn zg (.ret (rT (Fin.bu PB rfl ?_))));first
      |exact ⟨_,rfl,.ok aU ⟨ai,by first|omega|(simpa using A9),fun v hv=>pJ v ai,ig.2 fun y hy=>by
        obtain ⟨i,hi⟩:=List.getElem?_of_mem hy;exact h1 i (List.getElem?_eq_some_iff.1 hi).1 y hi⟩,hs.out⟩
      |exact ⟨_,rfl,.off aU (fun h=>by have:=h.len;omega),hs.out⟩
      |exact ⟨_,rfl,.off aU (fun h=>by have:=h.zero;first|omega|(simp at A9;omega)),hs.out⟩
      |exact ⟨_,rfl,.off aU (fun h=>by
        obtain ⟨p,h1,h2⟩:=we.1 kr;obtain ⟨i,hi⟩:=List.getElem?_of_mem h1;have qL:=(List.getElem?_eq_some_iff.1 hi).1;have:=bG qL;rw [hi] at this;cases this
        exact h2 (h.free i (by have:=h.len;omega))),hs.out⟩
      |exact ⟨_,rfl,.off aU (fun h=>by
        have h8:=ig.1 h.Em y (List.mem_of_getElem? hy);omega),hs.out⟩
    ·refine .skip (nT (.seq (.af (.z (zfa cn) (.y hs (zld fc) (.z (dk bj) (.zn zm (.for (N:=s.dt.length) (J:=fun k fr w=>fr=[(30,.slice al s.dt.length cl),(1,.slice ax x.length cx)]∧(∀i<k,∀y,s.dt[i]? =some y→gi x y.B.toNat≤gi x y.A.toNat+y.M)∧St H w (.blk b2 [I s.many,.slice al s.dt.length cl]::σ)) ai ?_ ?_ ?_))))))))
     ·exact .mk ⟨rfl,fun i hi=>by omega,hs⟩
     ·have pJ:∀v<x.length,-1000000000≤gi x v∧gi x v≤1000000000:=fun v hv=>by
       apply Classical.byContradiction;intro h;have:=we.2 ⟨gi x v,List.mem_of_getElem? (bG hv),h⟩;subst this;simp at kr
      rintro k fr w hk ⟨rfl,h1,hs⟩;obtain ⟨y,hy⟩:=nth hk;obtain ⟨⟨y1,y2⟩,⟨y3,y4⟩,y5,y6,-⟩:=aU.lim y (List.mem_of_getElem? hy);have z1:=pJ y.B.toNat ai;have z2:=pJ y.A.toNat ai;refine .block (.af (.ixX (enc:=Lim.c) hs hl rfl rfl bj cD hy rfl ?_));intro Qv o34 kJ;refine .q hs (cj (vs:=y.c) rfl kT cD kJ) (.o (.alloc hs gz rfl fun b7 w hs=>?_));refine .o (.aJ (vs:=y.c) hs rfl rfl cD fun w hs=>?_);refine .nil (.seq (.draw mix rfl hs fun w hs=>?_));refine .zw 0 rfl zm ?_;refine .z 1 rfl (zfa eZ) ?_;refine .y 2 rfl hs aj ?_;refine .ixX (enc:=fun x=>[I x]) (i:=3) hs rfl aD .none hx rfl rfl ae ak (bG (l:=x) (i:=y.B.toNat) ai) ai ?_;intro SA o39 kq;replace kq:=bJ.one kq;refine .r (i:=4) hs rfl aD .none (aF rfl aj kq) ?_;refine .zw 5 rfl zm ?_;refine .z 6 rfl (zfa eN) ?_;refine .y 7 rfl hs aj ?_;refine .ixX (enc:=fun x=>[I x]) (i:=8) hs rfl aD .none hx rfl rfl ae ak (bG (l:=x) (i:=y.A.toNat) ai) ai ?_;intro b44 o44 B4;replace B4:=bJ.one B4;refine .r (i:=9) hs rfl aD .none (aF rfl aj B4) ?_;refine .zw 10 rfl gE ?_;refine .z 11 rfl (zfa fN) ?_;refine .y 12 rfl hs aj ?_;refine .z 13 rfl ld ?_;refine .D hs ?_;refine (.bA rfl (fun xL=>?_) (fun xL=>?_))
      ·refine .af (.zn zg (.ret (rB (rT (rB (rT (Fin.bu PB rfl ?_)))))));first
        |exact ⟨_,rfl,.ok aU ⟨ai,by first|omega|(simpa using A9),fun v hv=>pJ v ai,ig.2 fun y hy=>by
          obtain ⟨i,hi⟩:=List.getElem?_of_mem hy;exact h1 i (List.getElem?_eq_some_iff.1 hi).1 y hi⟩,hs.out⟩
        |exact ⟨_,rfl,.off aU (fun h=>by have:=h.len;omega),hs.out⟩
        |exact ⟨_,rfl,.off aU (fun h=>by have:=h.zero;first|omega|(simp at A9;omega)),hs.out⟩
        |exact ⟨_,rfl,.off aU (fun h=>by
          obtain ⟨p,h1,h2⟩:=we.1 kr;obtain ⟨i,hi⟩:=List.getElem?_of_mem h1;have qL:=(List.getElem?_eq_some_iff.1 hi).1;have:=bG qL;rw [hi] at this;cases this
          exact h2 (h.free i (by have:=h.len;omega))),hs.out⟩
        |exact ⟨_,rfl,.off aU (fun h=>by
          have h8:=ig.1 h.Em y (List.mem_of_getElem? hy);omega),hs.out⟩
      ·refine .skip (nB (nT ?_));exact .mk ⟨rfl,fun i hi z hz=>by
        by_cases e:i=k
        ·subst e;rw [hy] at hz;cases hz;omega
        ·exact h1 i ai z hz,hs.out⟩
     ·have pJ:∀v<x.length,-1000000000≤gi x v∧gi x v≤1000000000:=fun v hv=>by
       apply Classical.byContradiction;intro h;have:=we.2 ⟨gi x v,List.mem_of_getElem? (bG hv),h⟩;subst this;simp at kr
      rintro fr w ⟨rfl,h1,hs⟩;refine nT (.af (.zn zg (.ret (Fin.bu PB rfl ?_))));first
       |exact ⟨_,rfl,.ok aU ⟨ai,by first|omega|(simpa using A9),fun v hv=>pJ v ai,ig.2 fun y hy=>by
         obtain ⟨i,hi⟩:=List.getElem?_of_mem hy;exact h1 i (List.getElem?_eq_some_iff.1 hi).1 y hi⟩,hs.out⟩
       |exact ⟨_,rfl,.off aU (fun h=>by have:=h.len;omega),hs.out⟩
       |exact ⟨_,rfl,.off aU (fun h=>by have:=h.zero;first|omega|(simp at A9;omega)),hs.out⟩
       |exact ⟨_,rfl,.off aU (fun h=>by
         obtain ⟨p,h1,h2⟩:=we.1 kr;obtain ⟨i,hi⟩:=List.getElem?_of_mem h1;have qL:=(List.getElem?_eq_some_iff.1 hi).1;have:=bG qL;rw [hi] at this;cases this
         exact h2 (h.free i (by have:=h.len;omega))),hs.out⟩
       |exact ⟨_,rfl,.off aU (fun h=>by
         have h8:=ig.1 h.Em y (List.mem_of_getElem? hy);omega),hs.out⟩
end Go.Proofs.YteajddicacjkhaaGreat
namespace Go.Proofs
open Go.Shelf
def Tryz.GP:Go.Shelf.Ren:=⟨fun|189=>303|125=>311|257=>310|128=>323|129=>324|294=>314|295=>315|296=>316|297=>317|298=>318|299=>319|216=>320|300=>321|301=>322|328=>325|329=>326|330=>327|331=>328|332=>329|215=>330|343=>331|n=>n,fun|28=>34|3=>3|46=>260|0=>0|51=>340|53=>343|4=>4|183=>348|182=>347|131=>165|5=>5|9=>9|218=>354|222=>358|228=>360|229=>293|n=>n,fun|n=>n⟩
theorem Tryz.Ls:Go.Proofs.Lays.n189 Tryz.prog Tryz.GP:={
 mixed:=by kernel_rfl
 f125:=Tryz.func311.trans (congrArg some (by kernel_rfl))
 f128:=Tryz.func323.trans (congrArg some (by kernel_rfl))
 f129:=Tryz.func324.trans (congrArg some (by kernel_rfl))
 f189:=Tryz.func303.trans (congrArg some (by kernel_rfl))
 f215:=Tryz.func330.trans (congrArg some (by kernel_rfl))
 f216:=Tryz.func320.trans (congrArg some (by kernel_rfl))
 f257:=Tryz.func310.trans (congrArg some (by kernel_rfl))
 f294:=Tryz.func314.trans (congrArg some (by kernel_rfl))
 f295:=Tryz.func315.trans (congrArg some (by kernel_rfl))
 f296:=Tryz.func316.trans (congrArg some (by kernel_rfl))
 f297:=Tryz.func317.trans (congrArg some (by kernel_rfl))
 f298:=Tryz.func318.trans (congrArg some (by kernel_rfl))
 f299:=Tryz.func319.trans (congrArg some (by kernel_rfl))
 f300:=Tryz.func321.trans (congrArg some (by kernel_rfl))
 f301:=Tryz.func322.trans (congrArg some (by kernel_rfl))
 f328:=Tryz.func325.trans (congrArg some (by kernel_rfl))
 f329:=Tryz.func326.trans (congrArg some (by kernel_rfl))
 f330:=Tryz.func327.trans (congrArg some (by kernel_rfl))
 f331:=Tryz.func328.trans (congrArg some (by kernel_rfl))
 f332:=Tryz.func329.trans (congrArg some (by kernel_rfl))
 f343:=Tryz.func331.trans (congrArg some (by kernel_rfl))
 t0:=Tryz.underlying0
 a0:=Tryz.isAgg0
 z0:=Tryz.sizeOf0
 v0:=Tryz.zeroValue0
 t3:=Tryz.underlying3
 a3:=Tryz.isAgg3
 z3:=Tryz.sizeOf3
 v3:=Tryz.zeroValue3
 t4:=Tryz.underlying4
 a4:=Tryz.isAgg4
 z4:=Tryz.sizeOf4
 v4:=Tryz.zeroValue4
 t5:=Tryz.underlying5
 a5:=Tryz.isAgg5
 z5:=Tryz.sizeOf5
 v5:=Tryz.zeroValue5
 t9:=Tryz.underlying9
 a9:=Tryz.isAgg9
 z9:=Tryz.sizeOf9
 v9:=Tryz.zeroValue9
 t28:=Tryz.underlying34
 a28:=Tryz.isAgg34
 z28:=Tryz.sizeOf34
 v28:=Tryz.zeroValue34
 t46:=Tryz.underlying260
 a46:=Tryz.isAgg260
 z46:=Tryz.sizeOf260
 v46:=Tryz.zeroValue260
 t51:=Tryz.underlying340
 a51:=Tryz.isAgg340
 z51:=Tryz.sizeOf340
 v51:=Tryz.zeroValue340
 t53:=Tryz.underlying343
 a53:=Tryz.isAgg343
 z53:=Tryz.sizeOf343
 v53:=Tryz.zeroValue343
 t131:=Tryz.underlying165
 a131:=Tryz.isAgg165
 z131:=Tryz.sizeOf165
 v131:=Tryz.zeroValue165
 t182:=Tryz.underlying347
 a182:=Tryz.isAgg347
 z182:=Tryz.sizeOf347
 v182:=Tryz.zeroValue347
 t183:=Tryz.underlying348
 a183:=Tryz.isAgg348
 z183:=Tryz.sizeOf348
 v183:=Tryz.zeroValue348
 t218:=Tryz.underlying354
 a218:=Tryz.isAgg354
 z218:=Tryz.sizeOf354
 v218:=Tryz.zeroValue354
 t222:=Tryz.underlying358
 a222:=Tryz.isAgg358
 z222:=Tryz.sizeOf358
 v222:=Tryz.zeroValue358
 t228:=Tryz.underlying360
 a228:=Tryz.isAgg360
 z228:=Tryz.sizeOf360
 v228:=Tryz.zeroValue360
 t229:=Tryz.underlying293
 a229:=Tryz.isAgg293
 z229:=Tryz.sizeOf293
 v229:=Tryz.zeroValue293}
def Tryz.E5:Go.Shelf.Ren:=⟨fun|20=>304|n=>n,fun|22=>34|3=>3|4=>4|0=>0|n=>n,fun|n=>n⟩
theorem Tryz.It:Go.Proofs.Lays2.n20 Tryz.prog Tryz.E5:={
 mixed:=by kernel_rfl
 f20:=Tryz.func304.trans (congrArg some (by kernel_rfl))
 t0:=Tryz.underlying0
 a0:=Tryz.isAgg0
 z0:=Tryz.sizeOf0
 v0:=Tryz.zeroValue0
 t3:=Tryz.underlying3
 a3:=Tryz.isAgg3
 z3:=Tryz.sizeOf3
 v3:=Tryz.zeroValue3
 t4:=Tryz.underlying4
 a4:=Tryz.isAgg4
 z4:=Tryz.sizeOf4
 v4:=Tryz.zeroValue4
 t22:=Tryz.underlying34
 a22:=Tryz.isAgg34
 z22:=Tryz.sizeOf34
 v22:=Tryz.zeroValue34
 i3:=by kernel_rfl}
end Go.Proofs
namespace Go.Proofs.YteajddicacjkhaaGreat
open Go.Sort Go.RowKit
theorem NJ(blk off cap:Nat)(zs:List Int)(w:World)(hH:Holds (Value.int .i64) w blk off zs.toArray)(YK:blk<w.heap.size)(ur:zs.length<4611686018427387904):
  Calls Tryz.prog 303 #[.slice (some ⟨blk,off,none⟩) zs.length cap] w fun e w'=>e= .returned (.tuple #[])∧∃n os,w'=grow (putRow (Value.int .i64) (Sort.ahead w n) blk off (zs.mergeSort fun x y=>decide (x≤y)).toArray) os:=
 Any.slices_Sort_int Tryz.Ls blk off cap zs w hH YK ur
theorem Di(p:Option Addr)(cap:Nat)(w:World):Calls Tryz.prog 303 #[.slice p 0 cap] w fun e w'=>e= .returned (.tuple #[])∧w'=w:=
 Any.slices_Sort_int_none Tryz.Ls p cap w
theorem Gz(blk off cap:Nat)(zs:List Int)(w:World)(hH:Holds (Value.int .i64) w blk off zs.toArray)(ur:zs.length≤9223372036854775807)(vX:zs.length≤cap):
  Calls Tryz.prog 304 #[.slice (some ⟨blk,off,none⟩) zs.length cap] w fun e w'=>e= .returned (.slice (some ⟨blk,off,none⟩) (Lib.compact zs).length cap)∧∃q,w'=putRow (Value.int .i64) (Sort.ahead w q) blk off (Lib.compact zs++List.replicate (zs.length - (Lib.compact zs).length) 0).toArray:=
 Any.slices_Compact_int Tryz.It blk off cap zs w hH ur vX
theorem yM(p:Option Addr)(cap:Nat)(w:World):Calls Tryz.prog 304 #[.slice p 0 cap] w fun e w'=>e= .returned (.slice p 0 cap)∧w'=w:=
 Any.slices_Compact_int_empty Tryz.It p cap w
end Go.Proofs.YteajddicacjkhaaGreat
