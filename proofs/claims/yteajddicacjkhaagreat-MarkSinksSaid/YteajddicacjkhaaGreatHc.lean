/-
  Texts of these claims, joined: Opn Opv Opm Opq Opc Cls Fct Wa Wb Wc Wd We Wf Wg Wh Wp Wt Wu Wv Wx Wy Xf Xi Xj Xn Srt Yc Yd Ye Yf Yq.
-/
import Derived.Test.YteajddicacjkhaaGreatHb
import Derived.Test.YteajddicacjkhaaGreatProg
import Derived.KernelRfl
import Derived.JoinedOf
import Derived.Shelf.Sort.Plain
import Derived.Shelf.Slices.CompactI
import Derived.Shelf.Slices.In.SortNone
import Derived.Lib.RowBridge
namespace Go.Proofs.YteajddicacjkhaaGreat
open Tryz
abbrev aaR:=Go.MW.Cl Tryz.prog
theorem Zc:type_of% @call131:=@call131
theorem xr:type_of% @call141:=@call141
theorem qk:type_of% @call146:=@call146
theorem jq:type_of% @call164:=@call164
theorem lH:type_of% @call167:=@call167
theorem Zb:type_of% @call188:=@call188
theorem nF:type_of% @call36:=@call36
theorem mz:type_of% @call72:=@call72
theorem nE:type_of% @call74:=@call74
theorem kK:type_of% @call90:=@call90
theorem DJ:type_of% @call93:=@call93
theorem Za:type_of% @call94:=@call94
theorem jU:type_of% @isAgg100:=@isAgg100
theorem oW:type_of% @isAgg113:=@isAgg113
theorem A9:type_of% @isAgg140:=@isAgg140
theorem jT:type_of% @isAgg162:=@isAgg162
theorem gz:type_of% @isAgg175:=@isAgg175
theorem cn:type_of% @isAgg177:=@isAgg177
theorem PH:type_of% @isAgg179:=@isAgg179
theorem lG:type_of% @isAgg193:=@isAgg193
theorem j5:type_of% @isAgg22:=@isAgg22
theorem PG:type_of% @isAgg226:=@isAgg226
theorem kJ:type_of% @isAgg23:=@isAgg23
theorem PF:type_of% @isAgg241:=@isAgg241
theorem PE:type_of% @isAgg243:=@isAgg243
theorem dc:type_of% @isAgg25:=@isAgg25
theorem dH:type_of% @isAgg26:=@isAgg26
theorem nb:type_of% @isAgg267:=@isAgg267
theorem ek:type_of% @isAgg28:=@isAgg28
theorem aj:type_of% @isAgg3:=@isAgg3
theorem q6:type_of% @isAgg303:=@isAgg303
theorem aq:type_of% @isAgg34:=@isAgg34
theorem Y9:type_of% @isAgg4:=@isAgg4
theorem bJ:type_of% @isAgg42:=@isAgg42
theorem bE:type_of% @isAgg48:=@isAgg48
theorem dm:type_of% @isAgg49:=@isAgg49
theorem jZ:type_of% @isAgg50:=@isAgg50
theorem bA:type_of% @isAgg52:=@isAgg52
theorem kI:type_of% @isAgg62:=@isAgg62
theorem jo:type_of% @isAgg64:=@isAgg64
theorem GI:type_of% @isAgg66:=@isAgg66
theorem mV:type_of% @isAgg87:=@isAgg87
theorem Ou:type_of% @results111:=@results111
theorem q5:type_of% @results113:=@results113
theorem xq:type_of% @results117:=@results117
theorem DI:type_of% @results120:=@results120
theorem xp:type_of% @results123:=@results123
theorem Ot:type_of% @results134:=@results134
theorem DH:type_of% @results150:=@results150
theorem oo:type_of% @results155:=@results155
theorem Oq:type_of% @results170:=@results170
theorem xo:type_of% @results176:=@results176
theorem kT:type_of% @results18:=@results18
theorem my:type_of% @results19:=@results19
theorem mw:type_of% @results20:=@results20
theorem Oo:type_of% @results217:=@results217
theorem On:type_of% @results228:=@results228
theorem DG:type_of% @results256:=@results256
theorem Ji:type_of% @results32:=@results32
theorem Jh:type_of% @results33:=@results33
theorem UJ:type_of% @results76:=@results76
theorem UI:type_of% @results79:=@results79
theorem UH:type_of% @results81:=@results81
theorem kH:type_of% @runUnderlying100:=@runUnderlying100
theorem DF:type_of% @runUnderlying104:=@runUnderlying104
theorem Y8:type_of% @runUnderlying113:=@runUnderlying113
theorem DD:type_of% @runUnderlying140:=@runUnderlying140
theorem nD:type_of% @runUnderlying151:=@runUnderlying151
theorem nC:type_of% @runUnderlying153:=@runUnderlying153
theorem cf:type_of% @runUnderlying159:=@runUnderlying159
theorem nA:type_of% @runUnderlying162:=@runUnderlying162
theorem aO:type_of% @runUnderlying175:=@runUnderlying175
theorem Y7:type_of% @runUnderlying179:=@runUnderlying179
theorem Y6:type_of% @runUnderlying190:=@runUnderlying190
theorem DC:type_of% @runUnderlying193:=@runUnderlying193
theorem bn:type_of% @runUnderlying22:=@runUnderlying22
theorem bY:type_of% @runUnderlying23:=@runUnderlying23
theorem Y5:type_of% @runUnderlying236:=@runUnderlying236
theorem jc:type_of% @runUnderlying238:=@runUnderlying238
theorem Y4:type_of% @runUnderlying246:=@runUnderlying246
theorem GH:type_of% @runUnderlying25:=@runUnderlying25
theorem aF:type_of% @runUnderlying26:=@runUnderlying26
theorem fG:type_of% @runUnderlying260:=@runUnderlying260
theorem aK:type_of% @runUnderlying267:=@runUnderlying267
theorem Y3:type_of% @runUnderlying272:=@runUnderlying272
theorem cq:type_of% @runUnderlying3:=@runUnderlying3
theorem DB:type_of% @runUnderlying303:=@runUnderlying303
theorem ta:type_of% @runUnderlying312:=@runUnderlying312
theorem eY:type_of% @runUnderlying332:=@runUnderlying332
theorem ae:type_of% @runUnderlying34:=@runUnderlying34
theorem aJ:type_of% @runUnderlying37:=@runUnderlying37
theorem GG:type_of% @runUnderlying39:=@runUnderlying39
theorem GF:type_of% @runUnderlying44:=@runUnderlying44
theorem wh:type_of% @runUnderlying48:=@runUnderlying48
theorem aD:type_of% @runUnderlying49:=@runUnderlying49
theorem bL:type_of% @runUnderlying50:=@runUnderlying50
theorem au:type_of% @runUnderlying62:=@runUnderlying62
theorem GD:type_of% @runUnderlying66:=@runUnderlying66
theorem eD:type_of% @runUnderlying80:=@runUnderlying80
theorem wg:type_of% @runUnderlying87:=@runUnderlying87
theorem iD:type_of% @runUnderlying96:=@runUnderlying96
theorem GC:type_of% @runUnderlying97:=@runUnderlying97
theorem a6:type_of% @sizeOf100:=@sizeOf100
theorem eh:type_of% @sizeOf104:=@sizeOf104
theorem jY:type_of% @sizeOf113:=@sizeOf113
theorem cP:type_of% @sizeOf134:=@sizeOf134
theorem eV:type_of% @sizeOf140:=@sizeOf140
theorem UG:type_of% @sizeOf151:=@sizeOf151
theorem eg:type_of% @sizeOf153:=@sizeOf153
theorem dw:type_of% @sizeOf162:=@sizeOf162
theorem aV:type_of% @sizeOf177:=@sizeOf177
theorem jg:type_of% @sizeOf179:=@sizeOf179
theorem BF:type_of% @sizeOf190:=@sizeOf190
theorem bU:type_of% @sizeOf193:=@sizeOf193
theorem BE:type_of% @sizeOf241:=@sizeOf241
theorem bK:type_of% @sizeOf25:=@sizeOf25
theorem UF:type_of% @sizeOf267:=@sizeOf267
theorem cI:type_of% @sizeOf28:=@sizeOf28
theorem an:type_of% @sizeOf3:=@sizeOf3
theorem bq:type_of% @sizeOf303:=@sizeOf303
theorem Jg:type_of% @sizeOf315:=@sizeOf315
theorem fF:type_of% @sizeOf337:=@sizeOf337
theorem aI:type_of% @sizeOf34:=@sizeOf34
theorem Om:type_of% @sizeOf4:=@sizeOf4
theorem aB:type_of% @sizeOf42:=@sizeOf42
theorem aP:type_of% @sizeOf48:=@sizeOf48
theorem aM:type_of% @sizeOf52:=@sizeOf52
theorem ea:type_of% @sizeOf64:=@sizeOf64
theorem jb:type_of% @sizeOf66:=@sizeOf66
theorem bw:type_of% @sizeOf87:=@sizeOf87
theorem kS:type_of% @typeInfo3:=@typeInfo3
theorem Y2:type_of% @typeInfo303:=@typeInfo303
theorem oV:type_of% @underlying3:=@underlying3
theorem E8:type_of% @underlying39:=@underlying39
theorem wx:type_of% @underlying44:=@underlying44
theorem jy:type_of% @zeroValue100:=@zeroValue100
theorem E7:type_of% @zeroValue104:=@zeroValue104
theorem na:type_of% @zeroValue134:=@zeroValue134
theorem qj:type_of% @zeroValue140:=@zeroValue140
theorem R8:type_of% @zeroValue153:=@zeroValue153
theorem wv:type_of% @zeroValue162:=@zeroValue162
theorem fk:type_of% @zeroValue177:=@zeroValue177
theorem E6:type_of% @zeroValue179:=@zeroValue179
theorem qi:type_of% @zeroValue190:=@zeroValue190
theorem iS:type_of% @zeroValue193:=@zeroValue193
theorem oU:type_of% @zeroValue25:=@zeroValue25
theorem s9:type_of% @zeroValue28:=@zeroValue28
theorem dD:type_of% @zeroValue3:=@zeroValue3
theorem iR:type_of% @zeroValue303:=@zeroValue303
theorem R7:type_of% @zeroValue315:=@zeroValue315
theorem gS:type_of% @zeroValue34:=@zeroValue34
theorem cZ:type_of% @zeroValue42:=@zeroValue42
theorem oT:type_of% @zeroValue48:=@zeroValue48
theorem iQ:type_of% @zeroValue52:=@zeroValue52
theorem AW:type_of% @zeroValue64:=@zeroValue64
theorem Y1:type_of% @zeroValue66:=@zeroValue66
theorem eX:type_of% @zeroValue87:=@zeroValue87
end Go.Proofs.YteajddicacjkhaaGreat
namespace Go.Proofs.YteajddicacjkhaaGreat
open Go.MW Go.ChangeShapes Go.WideShapes Tryz
set_option maxRecDepth 100000
theorem Gp:Tryz.prog.cellsOf 3=1:=by kernel_rfl
theorem LO:Tryz.prog.cellsOf 34=1:=by kernel_rfl
theorem Yn:Tryz.prog.bytesOf 3=8:=by kernel_rfl
theorem MH:reachBytes=140737488351232:=rfl
section
variable{H:Type}{enc:TypeId×Value→H}{w:World}{sp:Nat→Bool}{held:Bool}{n:Nat}{cs:List Value}{y:DataW H×List MemPlace}{v:Value}{d:DataW H}{p:List MemPlace}{r:Reach}{base:Nat}
theorem Ke(hw:Wt Tryz.prog 34 y.1)(h:DataW.trod enc Tryz.prog w 0 sp held n 34 cs=some y):∃v xs,cs=[v]∧RI (hp w) v xs∧IsIn xs:=by
 obtain ⟨v,xs,h1,h2,h3,h4⟩:=PN underlying34 oV Gp hw h;rw [Yn,MH] at h3;exact ⟨v,xs,h1,h2,ai,h4⟩
end
end Go.Proofs.YteajddicacjkhaaGreat
namespace Go.Proofs.YteajddicacjkhaaGreat
open Go.MW Go.ChangeShapes Go.WideShapes Tryz
set_option maxRecDepth 100000
theorem len6{α:Type}{l:List α}(h:l.length=6):∃a b c d e f,l=[a,b,c,d,e,f]:=by match l,h with|[a,b,c,d,e,f],_=>exact ⟨a,b,c,d,e,f,rfl⟩
section
variable{H:Type}{enc:TypeId×Value→H}{w:World}{sp:Nat→Bool}{held:Bool}{n:Nat}{cs:List Value}{y:DataW H×List MemPlace}{v:Value}{d:DataW H}{p:List MemPlace}{r:Reach}{base:Nat}
end
end Go.Proofs.YteajddicacjkhaaGreat
namespace Go.Proofs.YteajddicacjkhaaGreat
open Go.MW Go.ChangeShapes Go.WideShapes Tryz
set_option maxRecDepth 100000
theorem N7:Tryz.prog.cellsOf 35=1:=by kernel_rfl
theorem N6:Tryz.prog.cellsOf 36=1:=by kernel_rfl
theorem c_53:Tryz.prog.cellsOf 151=5:=by kernel_rfl
theorem c_43:Tryz.prog.cellsOf 97=4:=by kernel_rfl
theorem Vo:Tryz.prog.cellsOf 37=3:=by kernel_rfl
theorem LP:Tryz.prog.cellsOf 39=7:=by kernel_rfl
theorem len7{α:Type}{l:List α}(h:l.length=7):∃a b c d e f g,l=[a,b,c,d,e,f,g]:=by match l,h with|[a,b,c,d,e,f,g],_=>exact ⟨a,b,c,d,e,f,g,rfl⟩
theorem Ps:∀{zs:List (List Int)},(∀z∈zs,z.length=5∧∀y∈z,I64 y)→∃ls:List F5,zs.map Is=ls.map F5.v
 |[],_=>⟨[],rfl⟩
 |z::zs,h=>by
  obtain ⟨ls,h1⟩:=Ps (fun c hc=>h c (.tail _ hc));obtain ⟨h3,_⟩:=h z (.head _)
  match z,h3 with
  |[a,b,c,d,e],_=>exact ⟨⟨a,b,c,d,e⟩::ls,by rw [List.map_cons,h1];rfl⟩
theorem Pr:∀{zs:List (List Int)},(∀z∈zs,z.length=4∧∀y∈z,I64 y)→∃ls:List F4,zs.map Is=ls.map F4.v
 |[],_=>⟨[],rfl⟩
 |z::zs,h=>by
  obtain ⟨ls,h1⟩:=Pr (fun c hc=>h c (.tail _ hc));obtain ⟨h3,_⟩:=h z (.head _)
  match z,h3 with
  |[a,b,c,d],_=>exact ⟨⟨a,b,c,d⟩::ls,by rw [List.map_cons,h1];rfl⟩
structure aaP where
 sp:List Int
 rs:List F5
 cs:List F4
 pk:List Int
 x:Int
 y:Int
 z:Int
def YS(H:cu)(v:Value)(r:aaP):Prop:=∃vs v5 v4 vp,v= .agg #[vs,v5,v4,vp,I r.x,I r.y,I r.z]∧RI H vs r.sp∧RF5 H v5 r.rs∧RF4 H v4 r.cs∧RI H vp r.pk
section
variable{H:Type}{enc:TypeId×Value→H}{w:World}{sp:Nat→Bool}{held:Bool}{n:Nat}{cs:List Value}{y:DataW H×List MemPlace}{v:Value}{d:DataW H}{p:List MemPlace}{r:Reach}{base:Nat}
theorem M0(hw:Wt Tryz.prog 35 y.1)(h:DataW.trod enc Tryz.prog w 0 sp held n 35 cs=some y):∃(v:Value) (ls:List F5),cs=[v]∧RF5 (hp w) v ls:=by
 obtain ⟨v,zs,h1,h2,_,h3⟩:=Fp (k:=5) underlying35 underlying151 oV Gp eu c_53 hw h;obtain ⟨ls,h4⟩:=Ps h3;exact ⟨v,ls,h1,by unfold RF5;rw [←h4];exact h2⟩
theorem MZ(hw:Wt Tryz.prog 36 y.1)(h:DataW.trod enc Tryz.prog w 0 sp held n 36 cs=some y):∃(v:Value) (ls:List F4),cs=[v]∧RF4 (hp w) v ls:=by
 obtain ⟨v,zs,h1,h2,_,h3⟩:=Fp (k:=4) underlying36 underlying97 oV Gp eu c_43 hw h;obtain ⟨ls,h4⟩:=Pr h3;exact ⟨v,ls,h1,by unfold RF4;rw [←h4];exact h2⟩
end
end Go.Proofs.YteajddicacjkhaaGreat
namespace Go.Proofs.YteajddicacjkhaaGreat
open Go.MW Go.ChangeShapes Go.WideShapes Tryz
set_option maxRecDepth 100000
theorem HM:Tryz.prog.cellsOf 42=2:=by kernel_rfl
section
variable{H:Type}{enc:TypeId×Value→H}{w:World}{sp:Nat→Bool}{held:Bool}{n:Nat}{cs:List Value}{y:DataW H×List MemPlace}{v:Value}{d:DataW H}{p:List MemPlace}{r:Reach}{base:Nat}
theorem M1(h:DataW.trod enc Tryz.prog w 0 sp held n 42 cs=some y):∃a b:Int,cs=[I a,I b]∧I64 a∧I64 b:=by
 obtain ⟨xs,a1,a2,a3⟩:=JC underlying42 (by
  intro i f hf
  match i with
  |0|1=>cases hf;exact ⟨rfl,oV,Gp⟩
  |i+2=>simp at hf) (by rw [HM];rfl) h
 obtain ⟨a,b,rfl⟩:=VP a1;exact ⟨a,b,a2,a3 a bH,a3 b bH⟩
end
end Go.Proofs.YteajddicacjkhaaGreat
namespace Go.Proofs.YteajddicacjkhaaGreat
open Go.MW Go.ChangeShapes Go.WideShapes Tryz
set_option maxRecDepth 100000
theorem N5:Tryz.prog.cellsOf 40=1:=by kernel_rfl
theorem Uk:Tryz.prog.cellsOf 96=6:=by kernel_rfl
theorem Ra:Tryz.prog.cellsOf 44=14:=by kernel_rfl
theorem VQ{α:Type}{l:List α}(h:l.length=14):∃a b c d e f g i j k m n o p,l=[a,b,c,d,e,f,g,i,j,k,m,n,o,p]:=by match l,h with|[a,b,c,d,e,f,g,i,j,k,m,n,o,p],_=>exact ⟨a,b,c,d,e,f,g,i,j,k,m,n,o,p,rfl⟩
section
variable{H:Type}{enc:TypeId×Value→H}{w:World}{sp:Nat→Bool}{held:Bool}{n:Nat}{cs:List Value}{y:DataW H×List MemPlace}{v:Value}{d:DataW H}{p:List MemPlace}{r:Reach}{base:Nat}
theorem MY(hw:Wt Tryz.prog 40 y.1)(h:DataW.trod enc Tryz.prog w 0 sp held n 40 cs=some y):∃(v:Value) (ls:List Sx),cs=[v]∧RS (hp w) 6 v (ls.map Sx.v):=by
 obtain ⟨v,zs,h1,h2,_,h3⟩:=Fp (k:=6) underlying40 underlying96 oV Gp eu Uk hw h;obtain ⟨ls,h4,_⟩:=all_map (f:=Sx.v) (Q:=fun _=>True) (css:=zs.map Is) fun c hc=>by
  obtain ⟨z,hz,rfl⟩:=List.mem_map.1 hc;obtain ⟨a,b,c,d,e,f,rfl⟩:=len6 (h3 z hz).1;exact ⟨⟨a,b,c,d,e,f⟩,rfl,trivial⟩
 exact ⟨v,ls,h1,by rw [←h4];exact h2⟩
theorem SC(hw:Wt Tryz.prog 39 y.1)(h:DataW.trod enc Tryz.prog w 0 sp held n 39 cs=some y):∃q:aaP,YS (hp w) (.agg cs.toArray) q:=by
 obtain ⟨ys,m,_,rfl,hlen,yZ,hg⟩:=DataW.trod_struct E8 h;rw [LP] at hlen;obtain ⟨c0,c1,c2,c3,c4,c5,c6,rfl⟩:=len7 hlen;obtain ⟨_,h0,k0⟩:=fld hg yZ 0 rfl rfl rfl LO E8 hw;obtain ⟨_,h1,k1⟩:=fld hg yZ 1 rfl rfl rfl N7 E8 hw;obtain ⟨_,h2,k2⟩:=fld hg yZ 2 rfl rfl rfl N6 E8 hw;obtain ⟨_,h3,k3⟩:=fld hg yZ 3 rfl rfl rfl LO E8 hw;obtain ⟨_,h4,k4⟩:=fld hg yZ 4 rfl rfl rfl Vo E8 hw;obtain ⟨v0,s0,e0,r0,i0⟩:=Ke k0 h0;obtain ⟨v1,l1,e1,r1⟩:=M0 k1 h1;obtain ⟨v2,l2,e2,r2⟩:=MZ k2 h2;obtain ⟨v3,s3,e3,r3,i3⟩:=Ke k3 h3;obtain ⟨xs,g1,g2,g3⟩:=Cs underlying37 oV Gp Vo h4;obtain ⟨a,b,c,rfl⟩:=Zf g1;cases e0;cases e1;cases e2;cases e3;cases g2
 exact ⟨⟨s0,l1,l2,s3,a,b,c⟩,⟨_,_,_,_,rfl,r0,r1,r2,r3⟩⟩
theorem Iu(hv:Value.okWide Tryz.prog w r base 44 v)(h:DataW.Trod enc Tryz.prog w 0 sp held 44 v d p)(hw:Wt Tryz.prog 44 d):∃x:Of,(∃vs v5 v4 vp vn vg,v=x.agg vs v5 v4 vp vn vg∧I8 (hp w) x vs v5 v4 vp vn vg)∧I64 x.m1∧I64 x.m2:=by
 obtain ⟨cs,n,rfl,hn,_⟩:=I4 wx hv h;obtain ⟨ys,m,_,e,hlen,yZ,hg⟩:=DataW.trod_struct wx hn;cases e
 rw [Ra] at hlen;obtain ⟨c0,c1,c2,c3,c4,c5,c6,c7,c8,c9,c10,c11,c12,c13,rfl⟩:=VQ hlen;obtain ⟨_,h0,k0⟩:=fld hg yZ 0 rfl rfl rfl LP wx hw;obtain ⟨_,h1,k1⟩:=fld hg yZ 1 rfl rfl rfl LO wx hw;obtain ⟨_,h2,k2⟩:=fld hg yZ 2 rfl rfl rfl N5 wx hw;obtain ⟨_,h3,k3⟩:=fld hg yZ 3 rfl rfl rfl HM wx hw;obtain ⟨_,h4,k4⟩:=fld hg yZ 4 rfl rfl rfl Vo wx hw;obtain ⟨q,vs,v5,v4,vp,e0,r0,r1,r2,r3⟩:=SC k0 h0;obtain ⟨vn,ns,e1,r4,_⟩:=Ke k1 h1;obtain ⟨vg,sx,e2,r5⟩:=MY k2 h2;obtain ⟨m1,m2,e3,i1,i2⟩:=M1 h3;obtain ⟨xs,g1,e4,g3⟩:=Cs underlying37 oV Gp Vo h4;obtain ⟨a,b,c,rfl⟩:=Zf g1;cases e0;cases e1;cases e2;cases e3;cases e4
 exact ⟨⟨q.sp,q.rs,q.cs,q.pk,q.x,q.y,q.z,ns,sx,m1,m2,a,b,c⟩,⟨_,_,_,_,_,_,rfl,r0,r1,r2,r3,r4,r5⟩,i1,i2⟩
end
end Go.Proofs.YteajddicacjkhaaGreat
namespace Go.Proofs.YteajddicacjkhaaGreat
theorem Q8:Tryz.prog.make=some .cut:=by kernel_rfl
theorem N4:Tryz.prog.mayEnter=true:=by kernel_rfl
theorem N1:Tryz.prog.liftsFinal=false:=by kernel_rfl
theorem Q9:Tryz.prog.plainKeys=true:=by kernel_rfl
theorem LN:laidOutB Tryz.prog=true:=by kernel_rfl
theorem Q7:mapsRowed Tryz.prog=true:=by kernel_rfl
theorem N3:Tryz.prog.stopsHeard=true:=by kernel_rfl
theorem N0:Tryz.prog.stops=[]:=by kernel_rfl
theorem N2:Tryz.prog.stopKnobs=[]:=by kernel_rfl
theorem ud{a b:Bool}(h:a=true)(k:b=true):(a&&b)=true:=by rw [h,k];rfl
theorem Ul{α:Type}[BEq α][LawfulBEq α]{a b:α}(h:a=b):(a==b)=true:=by rw [h];exact beq_self_eq_true _
theorem Uj:ownKnob Tryz.prog.godebug=none:=by kernel_rfl
end Go.Proofs.YteajddicacjkhaaGreat
namespace Go.Proofs.YteajddicacjkhaaGreat
open Go.MW Tryz
variable{H:cu}{σ:List Ent}{a0 a1 a2 x most a hi lo f d e z1 z2 z3:Int}{l:Lns}{ls:List Lim}{g b k bf bt bl cl i j bm:Nat}{cap sp:List Value}{s:Spc}{xs ts lf ws L X Y l1 l2 sl pk ks dC:List Int}{en:Ent}{vl vt vp vw vm vx v1 v2 cE cB vr vc vh vs v5 v4 fX:Value}{m:Rng}{Ms rows:List (List Int)}{t:TD}{high:Bool}{ie:List F5}{ir:List F4}
theorem mix:Tryz.prog.follows .mixedOrders=true:=by kernel_rfl
theorem eQ:FA Tryz.prog 25 0 0:=by
 have h:=gH (k:=0) GH rfl an;exact h
theorem ji:FA Tryz.prog 25 1 1:=by
 have h:=gH (k:=1) GH rfl an;exact h
theorem db:FA Tryz.prog 25 2 2:=by
 have h:=gH (k:=2) GH rfl sizeOf22;exact h
theorem dj:FA Tryz.prog 25 3 3:=by
 have h:=gH (k:=3) GH rfl sizeOf23;exact h
theorem bG:FA Tryz.prog 28 0 0:=by
 have h:=gH (k:=0) runUnderlying28 rfl sizeOf26;exact h
theorem r8:FA Tryz.prog 39 0 0:=by
 have h:=gH (k:=0) GG rfl aI;exact h
theorem jJ:FA Tryz.prog 39 1 1:=by
 have h:=gH (k:=1) GG rfl sizeOf35;exact h
theorem mj:FA Tryz.prog 39 2 2:=by
 have h:=gH (k:=2) GG rfl sizeOf36;exact h
theorem rZ:FA Tryz.prog 39 3 3:=by
 have h:=gH (k:=3) GG rfl aI;exact h
theorem rY:FA Tryz.prog 39 4 4:=by
 have h:=gH (k:=4) GG rfl sizeOf37;exact h
theorem bp:FA Tryz.prog 42 0 0:=by
 have h:=gH (k:=0) runUnderlying42 rfl an;exact h
theorem bI:FA Tryz.prog 42 1 1:=by
 have h:=gH (k:=1) runUnderlying42 rfl an;exact h
theorem rX:FA Tryz.prog 44 0 0:=by
 have h:=gH (k:=0) GF rfl sizeOf39;exact h
theorem rW:FA Tryz.prog 44 1 7:=by
 have h:=gH (k:=1) GF rfl aI;exact h
theorem rV:FA Tryz.prog 44 2 8:=by
 have h:=gH (k:=2) GF rfl sizeOf40;exact h
theorem jI:FA Tryz.prog 44 3 9:=by
 have h:=gH (k:=3) GF rfl aB;exact h
theorem rU:FA Tryz.prog 44 4 11:=by
 have h:=gH (k:=4) GF rfl sizeOf37;exact h
theorem lr:FA Tryz.prog 46 0 0:=by
 have h:=gH (k:=0) runUnderlying46 rfl an;exact h
theorem lq:FA Tryz.prog 46 1 1:=by
 have h:=gH (k:=1) runUnderlying46 rfl an;exact h
theorem oR:FA Tryz.prog 48 0 0:=by
 have h:=gH (k:=0) wh rfl an;exact h
theorem ez:FA Tryz.prog 48 1 1:=by
 have h:=gH (k:=1) wh rfl an;exact h
theorem bO:FA Tryz.prog 48 2 2:=by
 have h:=gH (k:=2) wh rfl aI;exact h
theorem aQ:FA Tryz.prog 48 3 3:=by
 have h:=gH (k:=3) wh rfl aI;exact h
theorem eP:FA Tryz.prog 48 4 4:=by
 have h:=gH (k:=4) wh rfl sizeOf46;exact h
theorem aW:FA Tryz.prog 52 0 0:=by
 have h:=gH (k:=0) runUnderlying52 rfl aP;exact h
theorem aN:FA Tryz.prog 52 1 6:=by
 have h:=gH (k:=1) runUnderlying52 rfl sizeOf49;exact h
theorem cJ:FA Tryz.prog 52 2 7:=by
 have h:=gH (k:=2) runUnderlying52 rfl sizeOf50;exact h
theorem dW:FA Tryz.prog 64 0 0:=by
 have h:=gH (k:=0) runUnderlying64 rfl sizeOf62;exact h
theorem cN:FA Tryz.prog 66 0 0:=by
 have h:=gH (k:=0) GD rfl an;exact h
theorem ff:FA Tryz.prog 66 1 1:=by
 have h:=gH (k:=1) GD rfl an;exact h
theorem gW:FA Tryz.prog 66 2 2:=by
 have h:=gH (k:=2) GD rfl an;exact h
theorem gV:FA Tryz.prog 66 3 3:=by
 have h:=gH (k:=3) GD rfl ea;exact h
theorem ml:FA Tryz.prog 87 0 0:=by
 have h:=gH (k:=0) wg rfl an;exact h
theorem fJ:FA Tryz.prog 87 1 1:=by
 have h:=gH (k:=1) wg rfl an;exact h
theorem fI:FA Tryz.prog 87 2 2:=by
 have h:=gH (k:=2) wg rfl an;exact h
theorem ep:FA Tryz.prog 87 3 3:=by
 have h:=gH (k:=3) wg rfl aB;exact h
theorem gD:FA Tryz.prog 87 4 5:=by
 have h:=gH (k:=4) wg rfl aB;exact h
theorem fi:FA Tryz.prog 100 0 0:=by
 have h:=gH (k:=0) kH rfl an;exact h
theorem gY:FA Tryz.prog 100 1 1:=by
 have h:=gH (k:=1) kH rfl an;exact h
theorem gX:FA Tryz.prog 100 2 2:=by
 have h:=gH (k:=2) kH rfl an;exact h
theorem dL:FA Tryz.prog 100 3 3:=by
 have h:=gH (k:=3) kH rfl an;exact h
theorem dB:FA Tryz.prog 100 4 4:=by
 have h:=gH (k:=4) kH rfl an;exact h
theorem fh:FA Tryz.prog 100 5 5:=by
 have h:=gH (k:=5) kH rfl an;exact h
theorem fg:FA Tryz.prog 100 6 6:=by
 have h:=gH (k:=6) kH rfl an;exact h
theorem jM:FA Tryz.prog 104 0 0:=by
 have h:=gH (k:=0) DF rfl an;exact h
theorem e9:FA Tryz.prog 104 1 1:=by
 have h:=gH (k:=1) DF rfl an;exact h
theorem e8:FA Tryz.prog 104 2 2:=by
 have h:=gH (k:=2) DF rfl an;exact h
theorem jL:FA Tryz.prog 104 3 3:=by
 have h:=gH (k:=3) DF rfl an;exact h
theorem qc:FA Tryz.prog 113 0 0:=by
 have h:=gH (k:=0) Y8 rfl an;exact h
theorem fC:FA Tryz.prog 113 1 1:=by
 have h:=gH (k:=1) Y8 rfl an;exact h
theorem eF:FA Tryz.prog 113 2 2:=by
 have h:=gH (k:=2) Y8 rfl an;exact h
theorem bV:FA Tryz.prog 134 0 0:=by
 have h:=gH (k:=0) runUnderlying134 rfl an;exact h
theorem dT:FA Tryz.prog 134 1 1:=by
 have h:=gH (k:=1) runUnderlying134 rfl an;exact h
theorem nQ:FA Tryz.prog 140 0 0:=by
 have h:=gH (k:=0) DD rfl aM;exact h
theorem gM:FA Tryz.prog 140 2 12:=by
 have h:=gH (k:=2) DD rfl sizeOf26;exact h
theorem lk:FA Tryz.prog 140 3 13:=by
 have h:=gH (k:=3) DD rfl sizeOf80;exact h
theorem iM:FA Tryz.prog 140 4 14:=by
 have h:=gH (k:=4) DD rfl aI;exact h
theorem je:FA Tryz.prog 153 0 0:=by
 have h:=gH (k:=0) nC rfl an;exact h
theorem kr:FA Tryz.prog 153 1 1:=by
 have h:=gH (k:=1) nC rfl an;exact h
theorem gZ:FA Tryz.prog 153 2 2:=by
 have h:=gH (k:=2) nC rfl an;exact h
theorem gq:FA Tryz.prog 153 3 3:=by
 have h:=gH (k:=3) nC rfl an;exact h
theorem gj:FA Tryz.prog 153 4 4:=by
 have h:=gH (k:=4) nC rfl an;exact h
theorem gg:FA Tryz.prog 153 5 5:=by
 have h:=gH (k:=5) nC rfl an;exact h
theorem qx:FA Tryz.prog 162 0 0:=by
 have h:=gH (k:=0) nA rfl an;exact h
theorem mO:FA Tryz.prog 162 1 1:=by
 have h:=gH (k:=1) nA rfl an;exact h
theorem cz:FA Tryz.prog 177 0 0:=by
 have h:=gH (k:=0) runUnderlying177 rfl an;exact h
theorem cO:FA Tryz.prog 177 1 1:=by
 have h:=gH (k:=1) runUnderlying177 rfl sizeOf175;exact h
theorem mi:FA Tryz.prog 179 0 0:=by
 have h:=gH (k:=0) Y7 rfl aV;exact h
theorem mh:FA Tryz.prog 179 1 2:=by
 have h:=gH (k:=1) Y7 rfl aI;exact h
theorem mg:FA Tryz.prog 179 2 3:=by
 have h:=gH (k:=2) Y7 rfl an;exact h
theorem du:FA Tryz.prog 190 0 0:=by
 have h:=gH (k:=0) Y6 rfl an;exact h
theorem dt:FA Tryz.prog 190 1 1:=by
 have h:=gH (k:=1) Y6 rfl an;exact h
theorem eT:FA Tryz.prog 190 2 2:=by
 have h:=gH (k:=2) Y6 rfl an;exact h
theorem dS:FA Tryz.prog 193 0 0:=by
 have h:=gH (k:=0) DC rfl an;exact h
theorem ed:FA Tryz.prog 193 1 1:=by
 have h:=gH (k:=1) DC rfl an;exact h
theorem eZ:FA Tryz.prog 193 2 2:=by
 have h:=gH (k:=2) DC rfl an;exact h
theorem lX:FA Tryz.prog 193 3 3:=by
 have h:=gH (k:=3) DC rfl an;exact h
theorem xg:FA Tryz.prog 236 0 0:=by
 have h:=gH (k:=0) Y5 rfl sizeOf233;exact h
theorem xf:FA Tryz.prog 236 1 1:=by
 have h:=gH (k:=1) Y5 rfl sizeOf234;exact h
theorem xe:FA Tryz.prog 236 2 2:=by
 have h:=gH (k:=2) Y5 rfl an;exact h
theorem dA:FA Tryz.prog 241 0 0:=by
 have h:=gH (k:=0) runUnderlying241 rfl jY;exact h
theorem gG:FA Tryz.prog 241 1 3:=by
 have h:=gH (k:=1) runUnderlying241 rfl aP;exact h
theorem ef:FA Tryz.prog 246 0 0:=by
 have h:=gH (k:=0) Y4 rfl aM;exact h
theorem ig:FA Tryz.prog 246 1 8:=by
 have h:=gH (k:=1) Y4 rfl sizeOf159;exact h
theorem lj:FA Tryz.prog 246 2 9:=by
 have h:=gH (k:=2) Y4 rfl sizeOf175;exact h
theorem gO:FA Tryz.prog 272 0 0:=by
 have h:=gH (k:=0) Y3 rfl aV;exact h
theorem jK:FA Tryz.prog 272 1 2:=by
 have h:=gH (k:=1) Y3 rfl aI;exact h
theorem eO:FA Tryz.prog 272 2 3:=by
 have h:=gH (k:=2) Y3 rfl aI;exact h
theorem dQ:FA Tryz.prog 303 0 0:=by
 have h:=gH (k:=0) DB rfl an;exact h
theorem dZ:FA Tryz.prog 303 1 1:=by
 have h:=gH (k:=1) DB rfl an;exact h
theorem gN:FA Tryz.prog 303 2 2:=by
 have h:=gH (k:=2) DB rfl an;exact h
theorem eN:FA Tryz.prog 303 3 3:=by
 have h:=gH (k:=3) DB rfl an;exact h
theorem iw:FA Tryz.prog 315 0 0:=by
 have h:=gH (k:=0) runUnderlying315 rfl an;exact h
theorem kj:FA Tryz.prog 315 1 1:=by
 have h:=gH (k:=1) runUnderlying315 rfl an;exact h
theorem tl:FA Tryz.prog 317 0 0:=by
 have h:=gH (k:=0) runUnderlying317 rfl aI;exact h
theorem dI:FA Tryz.prog 337 0 0:=by
 have h:=gH (k:=0) runUnderlying337 rfl an;exact h
theorem lI:FA Tryz.prog 337 1 1:=by
 have h:=gH (k:=1) runUnderlying337 rfl Om;exact h
theorem vX:um Tryz.prog 25 [(0,1),(1,1),(2,1),(3,1)] [I 0,I 0,.slice none 0 0,.slice none 0 0]:=lF oU rfl GH bH
theorem qe:um Tryz.prog 28 [(0,1)] [.slice none 0 0]:=lF s9 rfl runUnderlying28 bH
theorem bX:um Tryz.prog 42 [(0,1),(1,1)] [I 0,I 0]:=lF cZ rfl runUnderlying42 bH
theorem xL:um Tryz.prog 46 [(0,1),(1,1)] [I 0,I 0]:=lF zeroValue46 rfl runUnderlying46 bH
theorem vW:um Tryz.prog 48 [(0,1),(1,1),(2,1),(3,1),(4,2)] [I 0,I 0,.slice none 0 0,.slice none 0 0,I 0,I 0]:=lF oT rfl wh bH
theorem tr:um Tryz.prog 52 [(0,6),(6,1),(7,1)] [I 0,I 0,.slice none 0 0,.slice none 0 0,I 0,I 0,.slice none 0 0,.slice none 0 0]:=lF iQ rfl runUnderlying52 bH
theorem sh:um Tryz.prog 64 [(0,1)] [.slice none 0 0]:=lF AW rfl runUnderlying64 bH
theorem jP:um Tryz.prog 66 [(0,1),(1,1),(2,1),(3,1)] [I 0,I 0,I 0,.slice none 0 0]:=lF Y1 rfl GD bH
theorem nV:um Tryz.prog 87 [(0,1),(1,1),(2,1),(3,2),(5,2)] [I 0,I 0,I 0,I 0,I 0,I 0,I 0]:=lF eX rfl wg bH
theorem jR:um Tryz.prog 100 [(0,1),(1,1),(2,1),(3,1),(4,1),(5,1),(6,1)] [I 0,I 0,I 0,I 0,I 0,I 0,I 0]:=lF jy rfl kH bH
theorem tt:um Tryz.prog 104 [(0,1),(1,1),(2,1),(3,1)] [I 0,I 0,I 0,I 0]:=lF E7 rfl DF bH
theorem sf:um Tryz.prog 113 [(0,1),(1,1),(2,1)] [I 0,I 0,I 0]:=lF zeroValue113 rfl Y8 bH
theorem iO:um Tryz.prog 134 [(0,1),(1,1)] [I 0,I 0]:=lF na rfl runUnderlying134 bH
theorem iy:um Tryz.prog 140 [(0,8),(8,4),(12,1),(13,1),(14,1)] [I 0,I 0,.slice none 0 0,.slice none 0 0,I 0,I 0,.slice none 0 0,.slice none 0 0,I 0,I 0,.slice none 0 0,.slice none 0 0,.slice none 0 0,.slice none 0 0,.slice none 0 0]:=lF qj rfl DD bH
theorem si:um Tryz.prog 153 [(0,1),(1,1),(2,1),(3,1),(4,1),(5,1)] [I 0,I 0,I 0,I 0,I 0,I 0]:=lF R8 rfl nC bH
theorem jQ:um Tryz.prog 162 [(0,1),(1,1)] [I 0,I 0]:=lF wv rfl nA bH
theorem kl:um Tryz.prog 177 [(0,1),(1,1)] [I 0,.slice none 0 0]:=lF fk rfl runUnderlying177 bH
theorem iF:um Tryz.prog 179 [(0,2),(2,1),(3,1)] [I 0,.slice none 0 0,.slice none 0 0,I 0]:=lF E6 rfl Y7 bH
theorem vV:um Tryz.prog 190 [(0,1),(1,1),(2,1)] [I 0,I 0,I 0]:=lF qi rfl Y6 bH
theorem fD:um Tryz.prog 193 [(0,1),(1,1),(2,1),(3,1)] [I 0,I 0,I 0,I 0]:=lF iS rfl DC bH
theorem kv:um Tryz.prog 236 [(0,1),(1,1),(2,1)] [.nilFunc,.nilFunc,I 0]:=lF zeroValue236 rfl Y5 bH
theorem yL:um Tryz.prog 241 [(0,3),(3,6)] [I 0,I 0,I 0,I 0,I 0,.slice none 0 0,.slice none 0 0,I 0,I 0]:=lF zeroValue241 rfl runUnderlying241 bH
theorem xj:um Tryz.prog 246 [(0,8),(8,1),(9,1)] [I 0,I 0,.slice none 0 0,.slice none 0 0,I 0,I 0,.slice none 0 0,.slice none 0 0,.slice none 0 0,.slice none 0 0]:=lF zeroValue246 rfl Y4 bH
theorem tq:um Tryz.prog 272 [(0,2),(2,1),(3,1)] [I 0,.slice none 0 0,.slice none 0 0,.slice none 0 0]:=lF zeroValue272 rfl Y3 bH
theorem tp:um Tryz.prog 303 [(0,1),(1,1),(2,1),(3,1)] [I 0,I 0,I 0,I 0]:=lF iR rfl DB bH
theorem vY:um Tryz.prog 315 [(0,1),(1,1)] [I 0,I 0]:=lF R7 rfl runUnderlying315 bH
theorem Dd:um Tryz.prog 317 [(0,1)] [.slice none 0 0]:=lF zeroValue317 rfl runUnderlying317 bH
theorem jO:um Tryz.prog 337 [(0,1),(1,1)] [I 0,.bool false]:=lF zeroValue337 rfl runUnderlying337 bH
theorem qX:AS Tryz.prog 22 2 2 [I 0,I 0,I 0,I 0]:=oS bn cP na eu aA
theorem qW:AS Tryz.prog 22 3 2 [I 0,I 0,I 0,I 0,I 0,I 0]:=oS bn cP na eu aA
theorem nU:AS Tryz.prog 23 1 4 [I 0,I 0,I 0,I 0]:=oS bY eh E7 eu aA
theorem mU:AS Tryz.prog 26 1 7 [I 0,I 0,I 0,I 0,I 0,I 0,I 0]:=oS aF bw eX eu aA
theorem mT:AS Tryz.prog 26 2 7 [I 0,I 0,I 0,I 0,I 0,I 0,I 0,I 0,I 0,I 0,I 0,I 0,I 0,I 0]:=oS aF bw eX eu aA
theorem se:AS Tryz.prog 34 0 1 []:=oS ae an dD eu aA
theorem cV:AS Tryz.prog 34 1 1 [I 0]:=oS ae an dD eu aA
theorem mq:AS Tryz.prog 34 2 1 [I 0,I 0]:=oS ae an dD eu aA
theorem EW:AS Tryz.prog 34 3 1 [I 0,I 0,I 0]:=oS ae an dD eu aA
theorem iE:AS Tryz.prog 49 1 7 [I 0,I 0,I 0,I 0,I 0,I 0,I 0]:=oS aD a6 jy eu aA
theorem s8:AS Tryz.prog 49 4 7 [I 0,I 0,I 0,I 0,I 0,I 0,I 0,I 0,I 0,I 0,I 0,I 0,I 0,I 0,I 0,I 0,I 0,I 0,I 0,I 0,I 0,I 0,I 0,I 0,I 0,I 0,I 0,I 0]:=oS aD a6 jy eu aA
theorem m9:AS Tryz.prog 50 1 6 [I 0,I 0,I 0,I 0,I 0,I 0]:=oS bL eg R8 eu aA
theorem tn:AS Tryz.prog 62 1 1 [.slice none 0 0]:=oS au aI gS eu aA
theorem Bw:AS Tryz.prog 62 2 1 [.slice none 0 0,.slice none 0 0]:=oS au aI gS eu aA
theorem jv:AS Tryz.prog 80 1 2 [I 0,I 0]:=oS eD aB cZ eu aA
theorem ke:AS Tryz.prog 159 1 2 [I 0,I 0]:=oS cf dw wv eu aA
theorem vT:AS Tryz.prog 175 1 4 [I 0,I 0,I 0,I 0]:=oS aO bU iS eu aA
theorem ij:AS Tryz.prog 175 2 4 [I 0,I 0,I 0,I 0,I 0,I 0,I 0,I 0]:=oS aO bU iS eu aA
theorem Dc:AS Tryz.prog 247 6 1 [.nilFunc,.nilFunc,.nilFunc,.nilFunc,.nilFunc,.nilFunc]:=oS runUnderlying247 sizeOf1 zeroValue1 eu aA
theorem uc:AS Tryz.prog 267 1 4 [I 0,I 0,I 0,I 0]:=oS aK bq iR eu aA
theorem vU:AS Tryz.prog 312 1 2 [I 0,I 0]:=oS ta Jg R7 eu aA
theorem nq:Jf Tryz.prog 23 23 104 4 32:=⟨bY,bY,eh,⟨_,typeInfo104,rfl,by decide⟩,⟨_,E7,rfl⟩⟩
theorem qY:Jf Tryz.prog 26 26 87 7 56:=⟨aF,aF,bw,⟨_,typeInfo87,rfl,by decide⟩,⟨_,eX,rfl⟩⟩
theorem cA:Jf Tryz.prog 34 34 3 1 8:=⟨ae,ae,an,⟨_,kS,rfl,by decide⟩,⟨_,dD,rfl⟩⟩
theorem eL:Jf Tryz.prog 49 49 100 7 56:=⟨aD,aD,a6,⟨_,typeInfo100,rfl,by decide⟩,⟨_,jy,rfl⟩⟩
theorem mv:Jf Tryz.prog 50 50 153 6 48:=⟨bL,bL,eg,⟨_,typeInfo153,rfl,by decide⟩,⟨_,R8,rfl⟩⟩
theorem nX:Jf Tryz.prog 62 62 34 1 24:=⟨au,au,aI,⟨_,typeInfo34,rfl,by decide⟩,⟨_,gS,rfl⟩⟩
theorem j8:Jf Tryz.prog 80 80 42 2 16:=⟨eD,eD,aB,⟨_,typeInfo42,rfl,by decide⟩,⟨_,cZ,rfl⟩⟩
theorem fK:Jf Tryz.prog 159 159 162 2 16:=⟨cf,cf,dw,⟨_,typeInfo162,rfl,by decide⟩,⟨_,wv,rfl⟩⟩
theorem dk:Jf Tryz.prog 175 175 193 4 32:=⟨aO,aO,bU,⟨_,typeInfo193,rfl,by decide⟩,⟨_,iS,rfl⟩⟩
theorem np:Jf Tryz.prog 267 267 303 4 32:=⟨aK,aK,bq,⟨_,Y2,rfl,by decide⟩,⟨_,iR,rfl⟩⟩
theorem om:Jf Tryz.prog 312 312 315 2 16:=⟨ta,ta,Jg,⟨_,typeInfo315,rfl,by decide⟩,⟨_,R7,rfl⟩⟩
theorem gI{w:World}(hs:St H w σ):aaR 199 [I a0,I a1,I a2] w fun v w'=>v= .bool (decide (a1≤a0∧a0≤a2))∧St H w' σ:=by
 refine Cl.o func199 ntmps199 ag3 ?_;refine .af (.zn zg (.af (.z zm (.z zm (.z oY (.z zm (.iz (t':=10) rfl (fun pP=>?_) (fun pP=>?_))))))))
 ·exact .T (.z zm (.T (.z zm (.T (.z oY (.z zpT (.zn zg (.ret (Fin.bj results199 rfl ⟨by simp [*],hs.out⟩)))))))))
 ·exact .Fs 3 3 true (.z zpF (.zn zg (.ret (Fin.bj results199 rfl ⟨by simp [*],hs.out⟩))))
theorem vQ{w:World}{many:Int}{l:Lim}(hs:St H w σ):aaR 250 [I many,.agg l.c.toArray] w fun v w'=>v= .bool (l.ok many)∧St H w' σ:=by
 refine Cl.o func250 ntmps250 ag2 ?_;refine .af (.bx hs fun b3 w hs=>?_);refine .zn zg (.af (.z (zfa dS) (.y hs (zld aj) (.z zm (.o (.call call199 rfl (gI hs) ?_))))));rintro _ w ⟨rfl,hs⟩;refine .z zm (.bif (t':=9) rfl (fun QB=>?_) (fun QB=>?_))
 ·refine .T (.z (zfa ed) (.T (.y hs (zld aj) (.T (.z zm (.T (.o (.call call199 rfl (gI hs) ?_))))))));rintro _ w ⟨rfl,hs⟩;refine .z zpT (.z zm (.bif (t':=15) rfl (fun Aw=>?_) (fun Aw=>?_)))
  ·refine .T (.z (zfa dS) (.T (.y hs (zld aj) (.T (.z (zfa ed) (.T (.y hs (zld aj) (.T (.z fV (.z zpT (.z zm (.EX (t':=22) rfl (fun QI=>?_) (fun QI=>?_)))))))))))))
   ·refine .T (.z (zfa eZ) (.T (.y hs (zld aj) (.T (.o (.call call199 rfl (gI hs) ?_))))));rintro _ w ⟨rfl,hs⟩;refine .z zpT (.z zm (.bif (t':=27) rfl (fun vD=>?_) (fun vD=>?_)))
    ·refine .T (.z (zfa lX) (.T (.y hs (zld aj) (.T (.o (.call call199 rfl (gI hs) ?_))))));rintro _ w ⟨rfl,hs⟩;exact .z zpT (.zn zg (.ret (Fin.bj results250 rfl ⟨by simp [Lim.ok, *],hs.out⟩)))
    ·exact .Fs 3 22 true (.z zpF (.zn zg (.ret (Fin.bj results250 rfl ⟨by simp [Lim.ok, *],hs.out⟩))))
   ·exact .Fs 3 17 true (.z zpF (.z zm (.Fs 3 22 true (.z zpF (.zn zg (.ret (Fin.bj results250 rfl ⟨by simp [Lim.ok, *],hs.out⟩)))))))
  ·exact .Fs 5 10 true (.z zpF (.z zm (.Fs 3 17 true (.z zpF (.z zm (.Fs 3 22 true (.z zpF (.zn zg (.ret (Fin.bj results250 rfl ⟨by simp [Lim.ok, *],hs.out⟩))))))))))
 ·exact .Fs 4 4 true (.z zpF (.z zm (.Fs 5 10 true (.z zpF (.z zm (.Fs 3 17 true (.z zpF (.z zm (.Fs 3 22 true (.z zpF (.zn zg (.ret (Fin.bj results250 rfl ⟨by simp [Lim.ok, *],hs.out⟩)))))))))))))
theorem Dl{w:World}{v:Value}{p:Lim→Bool}(hs:St H w σ)(hr:RL H v ls)
  (hc:∀args w,(callFunc g args).run Tryz.prog w= .ok (.enter g args) w) (hp:∀w l,St H w σ→aaR g ([.agg l.c.toArray]++cap) w fun u w'=>u= .bool (p l)∧St H w' σ):
  aaR 277 [v,.func (.func g) #[] cap.toArray] w fun u w'=>u=I (match ls.findIdx? p with|some k=>(k:Int)|none=> -1)∧St H w' σ:=by
 obtain ⟨a,c,rfl⟩:=RS.shape hr;have hl:=(RS.len hr).2.2;refine Cl.o func277 ntmps277 ag2 ?_;refine .af (.zn zg (.seq (.af (.z zm (.q hs (J4 hr rfl aO) (.zn zm (.for (N:=(ls.map Lim.c).length) (J:=fun k fr w=>fr=[(1,.func (.func g) #[] cap.toArray),(0,.slice a (ls.map Lim.c).length c)]∧St H w σ∧∀j<k,∀l,ls[j]? =some l→p l=false) ai ?_ ?_ ?_)))))))
 ·exact .mk ⟨rfl,hs,fun j hj=>by omega⟩
 ·rintro k fr w hk ⟨rfl,hs,eE⟩;obtain ⟨l,hl⟩:=nth (l:=ls) (by simpa using hk);refine .block (.af (.z zm (.zn zg (.af (.z zm (.z zm (.z zm (.ixX hs hr rfl rfl aO bU hl rfl ?_))))))));intro oh o14 jH;refine .y hs (zls [_,_,_,_] lG bU) (.o (.sa (first:=[]) rfl rfl hc (hp _ _ hs) ?_));rintro _ w ⟨rfl,hs⟩;refine .nil (.cond rfl (fun eC=>?_) (fun eC=>?_))
  ·exact .af (.z zm (.zn zg (.ret (rB (rT (rB (rT (Fin.bj results277 rfl ⟨by rw [AB hl eC eE],hs⟩))))))))
  ·exact .skip (nB (nT (.mk ⟨rfl,hs,fH eE hl eC⟩)))
 ·rintro fr w ⟨rfl,hs,eE⟩;exact nT (.af (.zn zg (.ret (Fin.bj results277 rfl ⟨by rw [xJ (by simpa using eE)],hs⟩))))
theorem yP{w:World}{v:Value}{p:Lim→Bool}(hs:St H w σ)(hr:RL H v ls)
  (hc:∀args w,(callFunc g args).run Tryz.prog w= .ok (.enter g args) w) (hp:∀w l,St H w σ→aaR g ([.agg l.c.toArray]++cap) w fun u w'=>u= .bool (p l)∧St H w' σ):
  aaR 248 [v,.func (.func g) #[] cap.toArray] w fun u w'=>u= .bool (ls.any p)∧St H w' σ:=by
 refine Cl.o func248 ntmps248 ag2 ?_;refine .af (.zn zg (.af (.z zm (.z zm (.o (.call call277 rfl (Dl hs hr hc hp) ?_))))));rintro _ w ⟨rfl,hs⟩;exact .z xv (.zn zg (.ret (Fin.bj results248 rfl ⟨by rw [Gs];cases ls.findIdx? p<;>simp<;>omega,hs⟩)))
theorem Db{w:World}{many:Int}{v:Value}{l:Lim}(hs:St H w σ)(hm:Mem σ (.blk b [I many,v])):aaR 249 [.agg l.c.toArray,Pt b] w fun v w'=>v= .bool (!l.ok many)∧St H w' σ:=by
 refine Cl.o func249 ntmps249 ag2 ?_;refine .af (.bx hs fun b2 w hs=>?_);refine .zn zg (.af (.z (zfa cz) (.q hs (eG rfl aj (.there hm) rfl) (.q hs (mG (vs:=l.c) rfl lG bU) (.o (.call call250 rfl (vQ hs) ?_))))));rintro _ w ⟨rfl,hs⟩;exact .z fU (.zn zg (.ret (Fin.bj results249 rfl ⟨rfl,hs.out⟩)))
theorem ku{w:World}{v:Value}{s:dv}(hs:St H w σ)(hr:RSy H v s):aaR 197 [v] w fun v w'=>v=I s.check∧St H w' σ:=by
 obtain ⟨u,rfl,hr⟩:=hr;obtain ⟨a,c,rfl⟩:=RS.shape hr;refine Cl.o func197 ntmps197 ag1 ?_;refine .af (.bx hs fun b1 w hs=>?_);refine .zn zg (.seq (.block (.af (.z (zfa cz) (.y hs (zld aj) (.o (.call call199 rfl (gI hs) ?_)))))));rintro _ w ⟨rfl,hs⟩;refine .z fU (.zn zg (.cond rfl (fun hc3=>?_) (fun hc3=>?_)))
 ·exact .af (.zn zg (.ret (rB (rT (Fin.bj results197 rfl ⟨congrArg I (by unfold dv.check;(repeat' split)<;>simp_all<;>omega),hs.out⟩)))))
 ·refine .af (.z (zfa cO) (.y hs (zld gz) (.q hs (J4 hr rfl aO) (.z kU (.zn zg (.bh rfl (fun ur=>?_) (fun ur=>?_)))))))
  ·exact .af (.zn zg (.ret (rB (rT (Fin.bj results197 rfl ⟨congrArg I (by unfold dv.check;(repeat' split)<;>simp_all<;>omega),hs.out⟩)))))
  ·refine .af (.z (zfa cO) (.y hs (zld gz) (.q hs (dU (f:=[]) (c:=[_]) rfl rfl) (.o (.call call248 rfl (yP (p:=fun l=> !l.ok s.many) hs hr call249 (fun w l hs=>Db hs .here)) ?_)))));rintro _ w ⟨rfl,hs⟩;refine .zn zg (.cond rfl (fun gL=>?_) (fun gL=>?_))
   ·exact .af (.zn zg (.ret (rB (rT (Fin.bj results197 rfl ⟨congrArg I (by unfold dv.check;(repeat' split)<;>simp_all<;>omega),hs.out⟩)))))
   ·exact .skip (nB (nT (.af (.zn zg (.ret (Fin.bj results197 rfl ⟨congrArg I (by unfold dv.check;(repeat' split)<;>simp_all<;>omega),hs.out⟩))))))
theorem vO{s:dv}{u:Value}(aZ:s.Ok)(hb:Row H b [I s.many,u])(hr:RL H u s.df):ItA Tryz.prog 295 [Pt b] H s.dG:=by
 intro l II Ix _ _ hy H0 GJ σf w hle B5 hs;obtain ⟨a,c,rfl⟩:=RS.shape hr;have B3:cellAt H0 b 1=some (.slice a (s.df.map Lim.c).length c):=cellAt.mono (by rw [hb.cell];rfl) hle;have hlen:=aZ.len;refine Cl.o func295 ntmps295 ag2 ?_;refine .af (.z (zfa cO) (.y hs (zld gz) (.q hs (J4 (hr.mono hle) rfl aO) (.zn zm (.for (N:=(s.df.map Lim.c).length) (J:=fun k fr w=>fr=[(6,.slice a (s.df.map Lim.c).length c),(0,.func (.yield l) #[] #[])]∧∃H1 σb,HLe H H1∧HLe H0 H1∧II k H1 σb∧St H1 w (σb++σf)) (by simp;omega) ?_ ?_ ?_)))))
 ·exact .mk ⟨rfl,H0,GJ,hle,HLe.refl _,B5,hs⟩
 ·rintro k fr w hk ⟨rfl,H1,σb,az,fO,hI,hs⟩;obtain ⟨x,hx⟩:=nth (l:=s.df) (by simpa using hk);obtain ⟨hA,hB,_⟩:=aZ.arc (List.mem_of_getElem? hx) k;refine .block (.af (.z zm (.ixX hs (hr.mono az) rfl rfl aO bU hx rfl ?_)));intro Cd o11 pL;refine .q hs (bQ (vs:=x.c) rfl lG bU pL) (.o (.alloc hs iS rfl fun b4 w hs=>?_));refine .z zg (.o (.aE (vs:=x.c) hs rfl rfl bU fun w hs=>?_));refine .nil (.af (.z zm (.z (zfa dS) (.y hs (zld aj) (.z (zfa ed) (.y hs (zld aj) (.z (zfa eZ) (.y hs (zld aj) (.z zm (.z (zbd [_,_,_,_] tp) ?_))))))))));have tj:k<(s.dG.map fun x=>[Value.agg x.v.toArray]).length:=by simp [dv.dG,fE];simpa using hk
  have SL:(s.dG.map fun x=>[Value.agg x.v.toArray])[k]=[.agg (x.arc k).v.toArray]:=by
   have:=nz hx;rw [List.getElem_map];rw [List.getElem?_eq_some_iff] at this;obtain ⟨h1,h2⟩:=this;simp only [dv.dG];rw [h2]
  have A0:=hy k tj H1 σb σf w az hI hs.tail;rw [SL] at A0;refine .o (.yield (vs:=[.agg (x.arc k).v.toArray]) rfl (by simp [Arc.v,hA,hB];rfl) A0 ?_);rintro v22 w ⟨H2,σ2,g1,hs,g3⟩;obtain ⟨bb,rfl,gT,gF⟩:=q7 g3;refine .zn fU (.cond rfl (fun mK=>?_) (fun mK=>?_))
  ·exact .ret (rB (rT (rB (Fin.Rv results295 ⟨H2,σ2,fO.trans g1,hs,.inr (gF (by simpa using mK))⟩))))
  ·exact .skip (nB (nT (.mk ⟨rfl,H2,σ2,az.trans g1,fO.trans g1,gT (by simpa using mK),hs⟩)))
 ·rintro fr w ⟨rfl,H1,σb,az,fO,hI,hs⟩;exact Fin.EO results295 ⟨H1,σb,fO,hs,.inl (by simpa [dv.dG,fE] using hI)⟩
theorem mR{w:World}{v:Value}{s:dv}(hs:St H w σ)(aZ:s.Ok)(hr:RSy H v s):
  aaR 269 [v] w fun v w'=>∃H1 b,HLe H H1∧v= .func (.func 295) #[] #[Pt b]∧ItA Tryz.prog 295 [Pt b] H1 s.dG∧St H1 w' σ:=by
 obtain ⟨u,rfl,hr⟩:=hr;refine Cl.o func269 ntmps269 ag1 ?_;refine .af (.bx hs fun b1 w hs=>?_);refine .zn zg (.af (.q hs (dU (f:=[]) (c:=[_]) rfl rfl) (.zn zg (.ret (Fin.bj results269 rfl ?_)))));obtain ⟨H1,g1,g2,hs⟩:=hs.dh .here;exact ⟨H1,b1,g1,rfl,vO aZ g2 (hr.mono g1),hs⟩
theorem lx{w:World}{N gf:Nat}{ar:List Arc}(hs:St H w σ)(hN:N≤64)(aZ:qB ar (N+1))(qO:ItA Tryz.prog gf cap H ar)(hc:∀args w,(callFunc gf args).run Tryz.prog w= .ok (.enter gf args) w):
  aaR 225 [I N,.func (.func gf) #[] cap.toArray] w fun v w'=>∃H1 bc bb s ov vo,HLe H H1∧v= .tuple #[.slice (some ⟨bc,0,none⟩) (N+1) (N+1),.slice (some ⟨bb,0,none⟩) (N+1) (N+1),vo]∧OvR H1 vo ov∧Uy (N+1) ar s ov∧St H1 w' (.blk bc (Is s.cost):: .blk bb (lA s.by_)::σ):=by
 refine Cl.o func225 ntmps225 ag2 ?_;refine .af (.o (.alloc hs gS rfl fun b4 w hs=>?_));refine .o (.alloc hs zeroValue267 rfl fun b5 w hs=>?_);refine .o (.alloc hs zeroValue268 rfl fun b6 w hs=>?_);refine .nil (.cut (fun fs w=>∃bc bb,kG fs ⟨70,[],[(1,.func (.func gf) #[] cap.toArray),(0,I N),(4,Pt b4),(5,Pt b5),(6,Pt b6)]⟩∧St H w (.blk b4 [.slice (some ⟨bc,0,none⟩) (N+1) (N+1)]:: .blk b5 [.slice (some ⟨bb,0,none⟩) (N+1) (N+1)]:: .blk b6 [.pointer none]:: .blk bc (Is (List.replicate (N+1) 0)):: .blk bb (lA (FI (N+1) 0))::σ)) ?_ ?_)
 ·refine .draw mix rfl hs fun w hs=>?_
  refine .zw 0 rfl zm ?_;refine .z 1 rfl cH ?_;refine .z 3 rfl zm ?_;refine .z 4 rfl cH ?_;refine .e2 (i:=2) (j:=5) aA rfl rfl rfl rfl .none .none hs ?_ ?_
  ·refine .yu (N+1) hs rfl rfl ae kS rfl an dD ai ?_;intro Cd w hs;refine .go (.e2 (i:=5) (j:=6) aA rfl rfl rfl rfl .none .none hs ?_ ?_)
   ·refine .M6 (N+1) hs rfl rfl aK Y2 rfl bq iR ai ?_;intro oh w hs;refine .go (.E 6 hs ?_);refine .store hs rfl rfl aI ?_;intro w hs;refine .go (.E 7 hs ?_);refine .store hs rfl rfl UF ?_;intro w hs;exact .go (.D hs (nT ⟨Cd,oh,aH,hs.sb⟩))
   ·refine .store hs rfl rfl aI ?_;intro w hs;refine .go (.E 5 hs ?_);refine .M6 (N+1) hs rfl rfl aK Y2 rfl bq iR ai ?_;intro oh w hs;refine .go (.E 7 hs ?_);refine .store hs rfl rfl UF ?_;intro w hs;exact .go (.D hs (nT ⟨Cd,oh,aH,hs.sb⟩))
  ·refine .M6 (N+1) hs rfl rfl aK Y2 rfl bq iR ai ?_;intro oh w hs;refine .go (.E 2 hs ?_);refine .yu (N+1) hs rfl rfl ae kS rfl an dD ai ?_;intro Cd w hs;refine .go (.E 6 hs ?_);refine .store hs rfl rfl aI ?_;intro w hs;refine .go (.E 7 hs ?_);refine .store hs rfl rfl UF ?_;intro w hs;exact .go (.D hs (nT ⟨Cd,oh,aH,hs.sb⟩))
 ·rintro s w ⟨bc,bb,fM,hs⟩;refine WE.sub ?_ fM;refine .seq (.af (.y hs (zld nb) (.z (de aK) (.zn zm (.for (N:=N+1) (J:=fun k fr w=>fr=[(1,.func (.func gf) #[] cap.toArray),(0,I N),(4,Pt b4),(5,Pt b5),(6,Pt b6)]∧St H w (.blk b4 [.slice (some ⟨bc,0,none⟩) (N+1) (N+1)]:: .blk b5 [.slice (some ⟨bb,0,none⟩) (N+1) (N+1)]:: .blk b6 [.pointer none]:: .blk bc (Is (List.replicate (N+1) 0)):: .blk bb (lA (FI (N+1) k))::σ)) ai ?_ ?_ ?_)))))
  ·exact .mk ⟨rfl,hs⟩
  ·rintro k fr w hk ⟨rfl,hs⟩;have lB:k<(FI (N+1) k).length:=by rw [FH ai];exact hk
   refine .block (.af (.z zm (.zn zg (.region (.y hs (zld nb) (.z zm ?_))))));first|(refine .ixw hs aK bq ?_;intro Vt o22 jm)|refine .z (oe aK bq) ?_
   refine .z (zfa eN) (.o (.store hs rfl rfl an ?_ dy (HN lB ai) ((E4 lB _).trans (congrArg lA (M4 hk)))));intro w hs;exact .nil (nB (nT (.mk ⟨rfl,hs⟩)))
  ·rintro fr w ⟨rfl,hs⟩;refine nT (.seq (.af (.z zm (.z cH (.zn zm (.forD (N:=N+2) (J:=fun r ds fr w=>fr=[(1,.func (.func gf) #[] cap.toArray),(0,I N),(4,Pt b4),(5,Pt b5),(6,Pt b6)]∧∃Ds H1 s vo,ds=marks Ds∧HLe H H1∧A6 (N+1) ar r 0 none s∧(r=0∨∃x,OvR H1 vo (some x)∧A6 (N+1) ar (r - 1) ar.length (some x) s)∧St H1 w (.blk b4 [.slice (some ⟨bc,0,none⟩) (N+1) (N+1)]:: .blk b5 [.slice (some ⟨bb,0,none⟩) (N+1) (N+1)]:: .blk b6 [vo]:: .blk bc (Is s.cost):: .blk bb (lA s.by_)::(mes Ds++σ))) ai ?_ ?_ ?_))))))
   ·exact .mk (ds:=[]) ⟨rfl,[],H,⟨List.replicate (N+1) 0,List.replicate (N+1) ⟨0,0,0,-1⟩⟩,_,rfl,HLe.refl _,A6.init ai,.inl rfl,by rw [Kk] at hs;exact hs⟩
   ·rintro r ds fr w hr ⟨rfl,Ds,H1,s,vo,rfl,az,aar,-,hs⟩;refine .block (.af (.o (.store hs rfl rfl sizeOf268 fun w hs=>?_)));refine .nil (.seq (.af (.zn zm (.block ?_))));refine .rangeFunc (gf:=gf) (cap:=cap) (xs:=ar.map fun x=>[.agg x.v.toArray]) (σb:=[.blk b4 [.slice (some ⟨bc,0,none⟩) (N+1) (N+1)],.blk b5 [.slice (some ⟨bb,0,none⟩) (N+1) (N+1)],.blk b6 [.pointer none],.blk bc (Is s.cost),.blk bb (lA s.by_)]) (σf:=mes Ds++σ) hs trivial rfl (qO.mono az) hc bH rfl
     (I:=fun k H' σb=>∃s ov vo,σb=[.blk b4 [.slice (some ⟨bc,0,none⟩) (N+1) (N+1)],.blk b5 [.slice (some ⟨bb,0,none⟩) (N+1) (N+1)],.blk b6 [vo],.blk bc (Is s.cost),.blk bb (lA s.by_)]∧OvR H' vo ov∧A6 (N+1) ar r k ov s) (Ix:=fun _ _ _=>False) (by rintro k _ _ σ g1 ⟨s,ov,vo,g2,g3,g4⟩;exact ⟨s,ov,vo,g2,g3.mono g1,g4⟩) (fun _ _ _ _ _ h=>h)
     ⟨s,none,_,rfl,rfl,aar⟩ ?_ ?_ (fun D c H' σb w _ h _=>h.elim)
    ·rintro l k hk H2 xu xt w bg ⟨s,ov,vo,rfl,IG,hN⟩ hs ⟨rr,Du⟩;obtain ⟨x,hx⟩:=nth (l:=ar) (by simpa using hk);obtain ⟨c1,c2,c3,c4,c5,c6⟩:=aZ.2 x (List.mem_of_getElem? hx);have SL:(ar.map fun x=>[Value.agg x.v.toArray])[k]=[.agg x.v.toArray]:=by rw [List.getElem_map];rw [List.getElem?_eq_some_iff] at hx;obtain ⟨h1,h2⟩:=hx;rw [h2]
     rw [SL];have lB:k<ar.length:=by simpa using hk
     have B4:=aZ.1;have Dv:=hN.lc;have Dw:=hN.lb;have lo1:=hN.lo x.f c1;have hi1:=hN.hi x.f c1;refine .region (.o (.alloc hs iR rfl fun b8 w hs=>?_));refine .o (.aE (vs:=x.v) hs rfl rfl bq fun w hs=>?_);refine .nil (nT ⟨H2,[.blk b8 x.v,.blk b4 [.slice (some ⟨bc,0,none⟩) (N+1) (N+1)],.blk b5 [.slice (some ⟨bb,0,none⟩) (N+1) (N+1)],.blk b6 [vo],.blk bc (Is s.cost),.blk bb (lA s.by_)],HLe.refl _,hs,?_⟩);rintro w xt - hs;refine .block (.seq (.draw mix rfl hs fun w hs=>?_));refine .y 0 rfl hs aq ?_;refine .z 1 rfl (zfa dQ) ?_;refine .y 2 rfl hs aj ?_;first|(refine .ixv 3 rfl hs ae an ?_;intro Pz o34 jx)|refine .z 3 rfl (zix ae an) ?_
     refine .y 4 rfl hs aj ?_;refine .z 5 rfl (zfa gN) ?_;refine .y 6 rfl hs aj ?_;refine .z 7 rfl cH ?_;refine .y 8 rfl hs aq ?_;refine .z 9 rfl (zfa dZ) ?_;refine .y 10 rfl hs aj ?_;first|(refine .ixv 11 rfl hs ae an ?_;intro R0 o42 tV)|refine .z 11 rfl (zix ae an) ?_
     refine .y 12 rfl hs aj ?_;refine .z 13 rfl fN ?_;refine .D hs ?_;refine (.bh rfl (fun vC=>?_) (fun vC=>?_))
     ·refine .seq (.draw mix rfl hs fun w hs=>?_);refine .y 0 rfl hs aq ?_;refine .z 1 rfl (zfa dZ) ?_;refine .y 2 rfl hs aj ?_;refine .y 3 rfl hs nb ?_;refine .z 4 rfl (zfa dZ) ?_;refine .y 5 rfl hs aj ?_;refine .y 6 rfl hs aq ?_;refine .z 7 rfl (zfa dQ) ?_;refine .y 8 rfl hs aj ?_;first|(refine .ixv 9 rfl hs ae an ?_;intro b54 o54 IP)|refine .z 9 rfl (zix ae an) ?_
      refine .y 10 rfl hs aj ?_;refine .z 11 rfl (zfa gN) ?_;refine .y 12 rfl hs aj ?_;refine .z 13 rfl cH ?_;refine .Iz (i:=14) (vs:=x.v) hs rfl aA .none rfl q6 bq ?_;first|(refine .ixv 15 rfl hs ae an ?_;intro aaK o60 ND)|refine .z 15 rfl (zix ae an) ?_
      refine .E 16 hs ?_;refine .store hs rfl rfl an ?_;intro w hs;refine .go ?_;first|(refine .ixw 17 rfl hs aK bq ?_;intro Px o61 tU)|refine .z 17 rfl (oe aK bq) ?_
      refine .E 18 hs ?_;refine .aE (vs:=x.v) hs rfl rfl bq ?_;intro w hs;refine .go (.D hs (.region (.o (.store hs rfl rfl sizeOf268 fun w hs=>?_))));refine .nil (nB ?_);obtain ⟨H3,g1,g2,hs⟩:=hs.dh .here;exact ⟨H3,_,g1,hs,s.rlx x,some x,_,rfl,⟨b8,rfl,g2⟩,hN.Bd aZ hx vC⟩
     ·exact .skip (nB ⟨H2,_,HLe.refl _,hs.tail,s,ov,vo,rfl,IG,hN.skip aZ hx (by unfold BS.can;omega)⟩)
    ·rintro D H2 xu w bg ⟨s,ov,vo,rfl,IG,hN⟩ hs;obtain ⟨a',rfl,Pd⟩:=IG.ptr;replace hs:St H2 w (.blk b4 [.slice (some ⟨bc,0,none⟩) (N+1) (N+1)]:: .blk b5 [.slice (some ⟨bb,0,none⟩) (N+1) (N+1)]:: .blk b6 [.pointer a']:: .blk bc (Is s.cost):: .blk bb (lA s.by_)::(mes (D::Ds)++σ)):=St.deep (σ1:=[_,_,_,_,_]) hs;have hN:A6 (N+1) ar r ar.length ov s:=by simpa using hN
     refine nB (nT (.af (.y hs (zld isAgg268) (.q hs (J7 rfl rfl runUnderlying268) (.nil (.cond rfl (fun pK=>?_) (fun pK=>?_)))))))
     ·refine .seq (.draw mix rfl hs fun w hs=>?_);refine .y 0 rfl hs aq ?_;refine .y 1 rfl hs nb ?_;refine .E 2 hs ?_;refine .store hs rfl rfl aI ?_;intro w hs;refine .go (.E 3 hs ?_);refine .store hs rfl rfl UF ?_;intro w hs;refine .go (.E 4 hs ?_);refine .store hs rfl rfl sizeOf268 ?_;intro w hs;refine .go (.D hs (.ret (rB (rT (rB (rT (?_)))))));obtain ⟨rfl,rfl⟩:=OvR.no Pd pK;refine Fin.iT (D::Ds) [_,_,_,_,_] hs fun w hs=>⟨_,results3 results225 (Il hs rfl aq) (Il hs rfl nb) (Il hs rfl isAgg268),H2,bc,bb,s,none,_,az.trans bg,rfl,IG,⟨r,hN,fun h=>(h rfl).elim⟩,hs.sb⟩
     ·refine .skip (nB (nT ?_));obtain ⟨x,rfl⟩:=OvR.yes Pd pK;exact .mk (ds:=marks (D::Ds)) ⟨rfl,D::Ds,H2,s,_,rfl,az.trans bg,hN.next aZ,.inr ⟨x,IG,hN⟩,hs⟩
   ·rintro ds fr w ⟨rfl,Ds,H1,s,vo,rfl,az,aar,hor,hs⟩;obtain ⟨x,IG,hN⟩:∃x,OvR H1 vo (some x)∧A6 (N+1) ar (N+2 - 1) ar.length (some x) s:=hor.resolve_left ai;obtain ⟨b3,rfl,pH⟩:=IG;refine nT (.seq (.draw mix rfl hs fun w hs=>?_));refine .y 0 rfl hs aq ?_;refine .y 1 rfl hs nb ?_;refine .y 2 rfl hs isAgg268 ?_;refine .E 3 hs ?_;refine .store hs rfl rfl aI ?_;intro w hs;refine .go (.E 4 hs ?_);refine .store hs rfl rfl UF ?_;intro w hs;refine .go (.E 5 hs ?_);refine .store hs rfl rfl sizeOf268 ?_;intro w hs;refine .go (.D hs (.ret (Fin.iT Ds [_,_,_,_,_] hs fun w hs=>⟨_,results3 results225 (Il hs rfl aq) (Il hs rfl nb) (Il hs rfl isAgg268),H1,bc,bb,s,some x,_,az,rfl,⟨b3,rfl,pH⟩,⟨N+1,hN,fun _=>rfl⟩,hs.sb⟩)))
theorem lz{w:World}{v:Value}{s:dv}(hs:St H w σ)(aZ:s.Ok)(hr:RSy H v s):
  aaR 223 [v] w fun v w'=>∃H1 b,HLe H H1∧v= .bool b∧(b=true↔s.Sound)∧St H1 w' σ:=by
 obtain ⟨u,rfl,hr⟩:=hr;obtain ⟨N,hN⟩:=Int.eq_ofNat_of_zero_le aZ.m0;have Vh:=aZ.m1;have hn:s.n=N+1:=by simp [dv.n,hN]
 have p9:=aZ.dG;rw [hn] at p9;rw [hN];refine Cl.o func223 ntmps223 ag1 ?_;refine .af (.bx hs fun b1 w hs=>?_);refine .zn zg (.seq (.draw mix rfl hs fun w hs=>?_));refine .zw 0 rfl (zfa cz) ?_;refine .y 1 rfl hs aj ?_;refine .ys 2 rfl hs [_,_] cn aV ?_;refine .E 3 hs ?_;refine .call call269 rfl (mR (s:=s) hs aZ ⟨u,by rw [hN],hr⟩) ?_;rintro _ w ⟨H1,ny,az,rfl,qO,hs⟩;refine .go (.E 4 hs ?_);refine .call call225 rfl (lx hs ai p9 qO call295) ?_;rintro _ w ⟨H2,bc,bb,st,ov,vo,bg,rfl,IG,RE,hs⟩;obtain ⟨a',rfl,Pd⟩:=IG.ptr;refine .go (.zw 5 rfl zm ?_);refine .z 6 rfl zex ?_;refine .z 7 rfl zex ?_;refine .z 8 rfl zex ?_;refine .z 9 rfl zg ?_;refine .z 10 rfl zg ?_;refine .z 11 rfl zg ?_;refine .D hs ?_;refine .af (.z zm (.q hs (J7 rfl rfl runUnderlying268) (.zn zg (.ret (Fin.bj results223 rfl ⟨H2,_,az.trans bg,rfl,?_,hs.out⟩)))));obtain ⟨r,L9,Am⟩:=RE
 cases ov with
 |none=>
  rw [Pd];exact ⟨fun _=>⟨_,(L9.sol p9 ai).1⟩,fun _=>rfl⟩
 |some x=>
  rw [Pd];exact ⟨fun h=>(by cases h),fun h=>(L9.none p9 ai (by have:=Am bH;omega) h).elim⟩
theorem tN{w:World}{c:Int}(hs:St H w σ)(hc:0≤c∧c<4294967296):aaR 313 [.int .u64 1,.int .u64 c] w fun v w'=>v= .tuple #[.int .u64 0,.int .u64 c]∧St H w' σ:=by
 refine Cl.o func313 ntmps313 ag2 ?_;refine .af (.z zg (.zn zg (.af (.z zm ?_))));first|refine .q hs (PY rfl rfl ⟨ai,ai⟩) ?_|refine .q hs (GX rfl rfl) ?_
 refine .zn zg (.af (.z zm ?_));first|refine .q hs (D1 rfl rfl ⟨ai,ai⟩) ?_|refine .q hs (FD rfl rfl eu) ?_
 refine .zn zg (.af (.z zm ?_));first|refine .q hs (PY rfl rfl ⟨ai,ai⟩) ?_|refine .q hs (GX rfl rfl) ?_
 refine .zn zg (.af (.z zm ?_));first|refine .q hs (D1 rfl rfl ⟨ai,ai⟩) ?_|refine .q hs (FD rfl rfl eu) ?_
 refine .zn zg (.af (.z zm (.z zm (.z kV (.zn zg (.af (.z zm (.z zm (.z kV (.z zm ?_))))))))));first|refine .q hs (D1 rfl rfl ⟨ai,ai⟩) ?_|refine .q hs (FD rfl rfl eu) ?_
 refine .z cH (.zn zg (.af (.z zm ?_)));first|refine .q hs (PY rfl rfl ⟨ai,ai⟩) ?_|refine .q hs (GX rfl rfl) ?_
 refine .zn zg (.af (.z zm ?_));first|refine .q hs (D1 rfl rfl ⟨ai,ai⟩) ?_|refine .q hs (FD rfl rfl eu) ?_
 refine .zn zg (.af (.z zm (.z zm (.z zm (.z kV (.z cH (.zn zg (.af (.z zm (.z zm (.z kV (.z zm (.z cH (.z zm ?_))))))))))))));first|refine .q hs (D1 rfl rfl ⟨ai,ai⟩) ?_|refine .q hs (FD rfl rfl eu) ?_
 exact .z cH (.zn zg (.af (.z zm (.z zm (.z kV (.zn zg (.ret (Fin.gU results313 rfl rfl ⟨bH,hs⟩))))))))
theorem wT{w:World}{c:Int}(hs:St H w σ)(hc:0≤c∧c<4294967296):aaR 306 [.int .u64 1,.int .u64 c] w fun v w'=>v= .tuple #[.int .u64 0,.int .u64 c]∧St H w' σ:=by
 refine Cl.o func306 ntmps306 ag2 ?_;refine .af (.z zg (.zn zg (.seq (.cF (.skip (nT (.af (.z zm (.z zm (.o (.call call313 rfl (tN hs hc) ?_)))))))))));rintro _ w ⟨rfl,hs⟩;exact .z zm (.z zex (.z zex (.z zg (.zn zg (.af (.z zm (.z zm (.z zg (.zn zg (.ret (Fin.gU results306 rfl rfl ⟨rfl,hs⟩)))))))))))
theorem Lt{c:Nat}{z:Int}:let n:=min k (c - k);(List.replicate k z++List.replicate (c - k) 0).take k++List.replicate n z++(List.replicate k z++List.replicate (c - k) 0).drop (k+n)=List.replicate (k+n) z++List.replicate (c - (k+n)) (0:Int):=by
 intro n;have hn:n≤c - k:=Nat.min_le_right _ _;have e0:(List.replicate k z).length=k:=by simp
 rw [List.take_left' e0];have e1:(List.replicate k z++List.replicate (c - k) 0).drop (k+n)=List.replicate (c - (k+n)) (0:Int):=by
  rw [show k+n=(List.replicate k z).length+n by simp,List.drop_append];simp;omega
 rw [e1,List.replicate_append_replicate]
theorem wF{w:World}{z:Int}{bx c:Nat}(hs:St H w σ)(hm:Mem σ (.blk bx (Is [z])))(h1:1≤c)(h2:c≤1000000):aaR 296 [.slice (some ⟨bx,0,none⟩) 1 1,I c] w fun v w'=>∃b,v= .slice (some ⟨b,0,none⟩) c c∧St H w' (.blk b (Is (List.replicate c z))::σ):=by
 refine Cl.o func296 ntmps296 ag2 ?_;refine .af (.zn zg (.seq (.af (.z zm (.zn fN (.bh rfl (fun pM=>?_) (fun pM=>?_)))))))
 ·omega
 ·refine .skip (nT (.af (.z zm (.z (de ae) ?_))));first|refine .q hs (CE rfl cq fG ⟨ai,ai⟩) ?_|refine .q hs (CD rfl cq fG ⟨ai,ai⟩) ?_|refine .q hs (D4 rfl cq fG) ?_
  refine .z zm ?_;first|refine .q hs (CE rfl cq fG ⟨ai,ai⟩) ?_|refine .q hs (CD rfl cq fG ⟨ai,ai⟩) ?_|refine .q hs (D4 rfl cq fG) ?_
  refine .o (.call call306 rfl (wT (c:=c) hs ai) ?_);rintro _ w ⟨rfl,hs⟩;refine .z zm (.z zex (.z zex (.z zg (.zn zg (.seq (.af (.z zm (.z kU (.z zm (.iz (t':=23) rfl (fun pN=>?_) (fun pN=>?_)))))))))))
  ·refine .Fs 2 2 false (.zn zpT (.cT ?_));first|omega|(simp at iV;omega)
  ·refine .T (.z zm (.T (.z kU (.zn zpF (.bh rfl (fun iV=>?_) (fun iV=>?_))))))
   ·first|omega|(simp at iV;omega)
   ·refine .skip (nT (.af (.z zm ?_)));first|refine .q hs (CE rfl fG cq ⟨ai,ai⟩) ?_|refine .q hs (CD rfl fG cq ⟨ai,ai⟩) ?_|refine .q hs (D4 rfl fG cq) ?_
    refine .o (.yu c hs rfl rfl ae kS rfl an dD ai fun Rh w hs=>?_);refine .zn zg (.af (.z zm (.z zm (.o (.Ug (k:=1) (xs:=List.replicate c 0) (zs:=[z]) hs rfl rfl ⟨_,_,rfl⟩ ae an ai rfl (EL (xs:=[z]) (.there hm) rfl rfl) (by simp;omega) ?_)))));intro w hs;refine .zn zg (.seq (.block ?_));refine .loop (fun k:Nat=>⟨48,[],[(8,I k),(7,.slice (some ⟨Rh,0,none⟩) c c)]⟩) (fun k w=>(1≤k∧k≤c)∧St H w (.blk Rh (Is (List.replicate k z++List.replicate (c - k) 0))::σ)) (fun k=>c - k) 1 aH ⟨⟨ai,ai⟩,by
      have e:List.take 0 (List.replicate c (0:Int))++[z]++List.drop (0+1) (List.replicate c 0)=List.replicate 1 z++List.replicate (c - 1) 0:=by simp
      rw [e] at hs;exact hs⟩ ?_
    rintro k w ⟨⟨k1,k2⟩,hs⟩;refine .seq (.af (.z zm (.z zm (.z (de ae) (.zn fN (.bh rfl (fun qb=>?_) (fun qb=>?_)))))))
    ·refine .skip (nT (.block (.draw mix rfl hs fun w hs=>?_)));refine .zw 0 rfl zm ?_;refine .z 1 rfl zm ?_;refine .z 2 rfl zm ?_;refine .zw 3 rfl (D0 (k:=k) rfl rfl ae an ai ai) (.zw 4 rfl zm ?_);refine .z 5 rfl zm ?_;refine .zw 6 rfl (zZ (k:=k) rfl rfl ae an ai) (.E 7 hs ?_);refine .Ug (k:=min k (c - k)) (xs:=List.replicate k z++List.replicate (c - k) 0) (zs:=List.replicate (min k (c - k)) z) hs rfl rfl ⟨_,_,rfl⟩ ae an rfl bH (EL (xs:=List.replicate k z++List.replicate (c - k) 0) .here (by rw [List.drop_zero,List.take_append_of_le_length (by simp;omega)];simp) bH) (by simp;omega) ?_;intro w hs;refine .go (.zw 8 rfl cH ?_);refine .z 9 rfl zg ?_;refine .D hs ?_;refine nB (nT ?_);exact ⟨k+min k (c - k),aH,⟨⟨ai,ai⟩,by
       have e:=Lt (z:=z) (c:=c) (k:=k);simp only [Nat.mul_one,Nat.zero_add] at hs;rw [e] at hs;exact hs⟩,ai⟩
    ·refine .exit (xT (xT (xB (nT (.af (.z zm (.zn zg (.ret (Fin.bj results296 rfl ?_)))))))));obtain rfl:k=c:=by omega
     exact ⟨Rh,rfl,by simpa using hs⟩
theorem wG{w:World}{v:Value}(hs:St H w σ)(hr:RI H v xs)(hx:xs.length≤17592186044416):aaR 171 [v] w fun u w'=>∃en,(SE v=true→SE u=true)∧cU 1 u (Is xs) en∧St H w' (en::σ):=by
 obtain ⟨a,c,rfl⟩:=RI.shape hr;have hl:=(RI.len hr).2.2;refine Cl.o func171 ntmps171 ag1 ?_;refine .af (.zn zg (.seq (.af (.z zm (.q hs (Sz rfl rfl ae) (.nil (.cond rfl (fun ZZ=>?_) (fun ZZ=>?_))))))))
 ·refine .af (.zn zg (.ret (rT (Fin.bj results171 rfl ?_))));obtain rfl:a=none:=by simpa using ZZ
  obtain rfl:=hr.VN;exact ⟨.nul,fun h=>h,.nil 1 none,hs.nul⟩
 ·refine .skip (nT (.af (.o (.buildSlice (cells:=[]) hs se rfl rfl fun b5 w hs=>?_))));refine .z zm (.o (.LR (xs:=[]) (ys:=Is xs) hs cA rfl rfl (.full rfl) (.ints hr) (by simp [Value.oneCell']) (fun l h=>by simp at h;omega) ?_));intro v7 en7 w Hi hO hs;exact .zn zg (.ret (Fin.bj results171 rfl ⟨en7,fun _=>Hi rfl,hO,hs⟩))
theorem qm{w:World}{v:Value}(hs:St H w σ)(hr:RI H v xs)(hx:xs.length≤17592186044416):aaR 171 [v] w fun v w'=>∃en,cU 1 v (Is xs) en∧St H w' (en::σ):=
 (wG hs hr hx).mono fun _ _ ⟨en,_,h⟩=>⟨en,h⟩
theorem tA{w:World}{v:Value}{l:List Arc}(hs:St H w (en::σ))(ho:cU 4 v (lA l) en)(hl:l.length≤1000000):
  aaR 297 [v] w fun _ w'=>∃kO,cU 4 v (lA l.reverse) kO∧St H w' (kO::σ):=by
 rcases ho with ⟨a,rfl,h2,rfl⟩|⟨b,len,cap,sp,rfl,rfl,h2,h3,h4⟩
 ·obtain rfl:l=[]:=by
   have:=congrArg List.length h2;rw [eJ] at this;exact List.length_eq_zero_iff.1 (by simp at this;omega)
  have hs:=hs.tail;refine Cl.o func297 ntmps297 ag1 ?_;refine .af (.z zm (.z (de aK) (.z gx (.z zg (.zn zg (.block (.loop (fun _:Unit=>⟨28,[],[(2,I 0),(3,I (-1))]⟩) (fun _ w=>St H w σ) (fun _=>0) () aH hs ?_)))))));rintro _ w hs;refine .seq (.af (.z zm (.z zm (.zn fN (.bh rfl (fun nv=>?_) (fun nv=>?_))))))
  ·omega
  ·exact .exit (xT (xT (xB (Fin.EO results297 ⟨.nul,.nil 4 a,hs.nul⟩))))
 obtain rfl:len=l.length:=by rw [eJ] at h2;omega
 refine Cl.o func297 ntmps297 ag1 ?_;refine .af (.z zm (.z (de aK) (.z gx (.z zg (.zn zg (.block (.loop (fun p:Nat×List Arc=>⟨28,[],[(2,I p.1),(3,I ((l.length:Int) - 1 - p.1)),(0,.slice (some ⟨b,0,none⟩) l.length cap)]⟩) (fun p w=>(2*p.1≤l.length+1∧xP l p.2 p.1)∧St H w (.blk b (lA p.2++sp)::σ)) (fun p=>l.length - p.1) (0,l) (.cons rfl (.cD rfl bH (.cons rfl (.nil rfl rfl)))) ⟨⟨bH,.start l⟩,hs⟩ ?_)))))));rintro ⟨i,L⟩ w ⟨⟨h5,h6⟩,hs⟩;dsimp only at h5 h6 hs ⊢;have hL:=h6.1;refine .seq (.af (.z zm (.z zm (.zn fN (.bh rfl (fun nv=>?_) (fun nv=>?_))))))
 ·refine .skip (nT (.seq (.block (.draw mix rfl hs fun w hs=>?_))));refine .zw 0 rfl zm ?_;refine .z 1 rfl zm ?_;refine .z 2 rfl zm ?_;refine .z 3 rfl zm ?_;refine .z 4 rfl zm ?_;refine .z 5 rfl zm ?_;refine .zw 6 rfl (BR (k:=l.length - 1 - i) rfl rfl aK bq ai ai) (.Iz (i:=7) (vs:=(ga L (l.length - 1 - i)).v) hs rfl aA .none rfl q6 bq ?_ (hv:=AT ai sp));refine .zw 8 rfl zm ?_;refine .z 9 rfl zm ?_;first|(refine .ixw 10 rfl hs aK bq ?_;intro ue o24 jX)|refine .z 10 rfl (oe aK bq) ?_
  refine .Iz (i:=11) (vs:=(ga L i).v) hs rfl aA .none rfl q6 bq ?_ (hv:=AT ai sp);first|(refine .ixw 12 rfl hs aK bq ?_;intro Ur o26 iV)|refine .z 12 rfl (oe aK bq) ?_
  refine .E 13 hs ?_;refine .aE (vs:=(ga L (l.length - 1 - i)).v) hs rfl rfl bq ?_ dy (AJ ai sp) (xy ai _ sp);intro w hs;refine .go (.zw 14 rfl (BR (k:=l.length - 1 - i) rfl rfl aK bq ai ai) (.E 15 hs ?_));refine .aE (vs:=(ga L i).v) hs rfl rfl bq ?_ dy (AJ (by simp;omega) sp) (xy (by simp;omega) _ sp);intro w hs;exact .go (.D hs (nB (nT (.region (.z zm (.z cH (.z zm (.z gx (.z zg (.zn zg (nT ⟨(i+1,_),.cons rfl (.cD rfl (by push_cast;omega) (.cons rfl (.nil rfl rfl))),⟨⟨by dsimp only;omega,h6.step ai⟩,hs⟩,by dsimp only;omega⟩)))))))))))
 ·refine .exit (xT (xT (xB ?_)));rw [h6.done ai] at hs;exact Fin.EO results297 ⟨_,.inr ⟨b,l.length,cap,sp,rfl,rfl,by rw [eJ];simp,by rw [←h3];simp [eJ],h4⟩,hs⟩
theorem qV{b1:Nat}{s:dv}(aZ:s.Ok)(hb:Row H b1 [Pt bf])(hF:AQ H bf s ts lf vl bt bl cl sp)(fb:ts.length=s.df.length):
  ItA Tryz.prog 274 [Pt b1] H (dz s.dG ts):=by
 intro l II Ix FV Np hy H0 GJ σf w hle B5 hs;have A3:cellAt H0 b1 0=some (Pt bf):=(hb.mono hle).at 0;have Jv:=hF.mono hle;have SR:=Jv.f.cells 0 [I s.many,vl];have hlen:s.dG.length=ts.length:=by simp [dv.dG,fE,fb]
 refine Cl.o func274 ntmps274 ag2 ?_;refine .af (.bx hs fun b2 w hs=>?_);refine .nil (.af (.y hs (zld PG) (.z znc (.z (zfa gO) (.q hs (bQ (vs:=[I s.many,vl]) rfl cn aV SR) (.o (.call call269 rfl (mR (s:=s) hs aZ ⟨vl,rfl,Jv.l⟩) ?_)))))));rintro _ w ⟨H1,b8,az,rfl,qO,hs⟩;refine .nil (.block ?_);refine .rangeFunc (gf:=295) (cap:=[Pt b8]) (xs:=s.dG.map fun x:Arc=>[Value.agg x.v.toArray]) (σb:= .blk b2 [.func (.yield l) #[] #[]]::GJ) (σf:=σf) hs trivial rfl qO call295 bH rfl
  (I:=fun k H' σb=>∃σo,σb= .blk b2 [.func (.yield l) #[] #[]]::σo∧HLe H0 H'∧II (GZ s.dG ts k) H' σo)
  (Ix:=fun c H' σb=>c= .ret∧∃σo,σb= .blk b2 [.func (.yield l) #[] #[]]::σo∧HLe H0 H'∧Ix H' σo)
  (fun k _ _ σ g1 ⟨σo,g2,g3,g4⟩=>⟨σo,g2,g3.trans g1,FV _ _ _ _ g1 g4⟩) (fun c _ _ σ g1 ⟨g0,σo,g2,g3,g4⟩=>⟨g0,σo,g2,g3.trans g1,Np _ _ _ g1 g4⟩)
  ⟨GJ,rfl,az,by rw [Kc];exact FV _ _ _ _ az B5⟩ ?_ ?_ ?_
 ·rintro l2 k hk H2 xu xt w bg ⟨σo,rfl,fO,Yh⟩ hs ⟨rr,Du⟩;obtain ⟨x,hx⟩:=nth (l:=s.dG) (by simpa using hk);obtain ⟨c1,c2,c3,c4,c5,c6⟩:=aZ.dG.2 x (List.mem_of_getElem? hx);have SL:(s.dG.map fun x=>[Value.agg x.v.toArray])[k]=[.agg x.v.toArray]:=by rw [List.getElem_map];rw [List.getElem?_eq_some_iff] at hx;obtain ⟨h1,h2⟩:=hx;rw [h2]
  rw [SL];have RH:k<ts.length:=by rw [←hlen];simpa using hk
  have sV:x.l=(k:Int):=vZ hx;obtain ⟨r1,r2,r3⟩:=JW (ts:=ts) hx RH;refine .region (.o (.alloc hs iR rfl fun b3 w hs=>?_));refine .o (.aE (vs:=x.v) hs rfl rfl bq fun w hs=>?_);refine .nil (nT ⟨H2,.blk b3 x.v:: .blk b2 [.func (.yield l) #[] #[]]::σo,HLe.refl _,hs,?_⟩);rintro w xt - hs;refine .block (.seq (.af (.y hs (zld isAgg307) (.q hs (mG (vs:=x.v) rfl q6 bq) ?_))));have A0:=hy (GZ s.dG ts k) (by simpa using (List.getElem?_eq_some_iff.1 r1).1) H2 σo (.blk b3 x.v:: .blk b2 [.func (.yield l) #[] #[]]::xt) w (hle.trans fO) Yh (St.deep (σ1:=σo) (St.deep (σ1:= .blk b3 x.v::σo) (hs.perm (.swap _ _ _))));rw [Km r1] at A0;refine .o (.yield (vs:=[.agg x.v.toArray]) rfl rfl A0 ?_);rintro v12 w ⟨H3,σ3,bZ,hs,g3⟩;obtain ⟨bb,rfl,gT,gF⟩:=q7 g3;replace hs:St H3 w (.blk b3 x.v:: .blk b2 [.func (.yield l) #[] #[]]::(σ3++xt)):=(St.shallow (σ1:= .blk b3 x.v::σ3) (St.shallow (σ1:=σ3) hs)).perm (.swap _ _ _);refine .zn fU (.cond rfl (fun gL=>?_) (fun gL=>?_))
  ·exact .ret (rT (rB (⟨H3,.blk b2 [.func (.yield l) #[] #[]]::σ3,bZ,hs.tail,rfl,σ3,rfl,fO.trans bZ,gF (by simpa using gL)⟩)))
  ·refine .skip (nT (.seq (.draw mix rfl hs fun w hs=>?_)));have RO:cellAt H3 b1 0=some (Pt bf):=cellAt.mono A3 (fO.trans bZ);have U9:cellAt H3 bf 2=some (.slice (some ⟨bt,0,none⟩) ts.length ts.length):=((Jv.mono (fO.trans bZ)).f).at 2;have ht3:cellAt H3 bt k=some (I (gi ts k)):=((Jv.mono (fO.trans bZ)).t).at k (fQ RH);have Ln:=gT (by simpa using gL);refine .r (i:=0) hs rfl aA .none (aC rfl PG RO) ?_;refine .zw 1 rfl znc ?_;refine .z 2 rfl (zfa jK) ?_;refine .y 3 rfl hs aq ?_;refine .z 4 rfl (zfa eN) ?_;refine .y 5 rfl hs aj ?_;refine .zw 6 rfl (eS (k:=k) rfl rfl ae an sV RH) (.r (i:=7) hs rfl aA .none (aC rfl aj ht3) ?_);refine .zw 8 rfl kU ?_;refine .z 9 rfl zm ?_;refine .iz (t':=23) rfl (fun pN=>?_) (fun pN=>?_)
   ·refine .zv 10 rfl hs (p8 isAgg307) (.zw 11 rfl (zfa dZ) ?_);refine .y 12 rfl hs aj ?_;refine .z 13 rfl (zfa dQ) ?_;refine .y 14 rfl hs aj ?_;refine .z 15 rfl (zfa gN) ?_;refine .y 16 rfl hs aj ?_;refine .z 17 rfl Fm ?_;refine .z 18 rfl (zfa eN) ?_;refine .y 19 rfl hs aj ?_;refine .z 20 rfl (zbd [_,_,_,_] tp) ?_;refine .E 21 hs ?_;obtain ⟨r4,r5⟩:=r2 pN;have A0:=hy (GZ s.dG ts k+1) (by simpa using (List.getElem?_eq_some_iff.1 r4).1) H3 σ3 (.blk b3 x.v:: .blk b2 [.func (.yield l) #[] #[]]::xt) w (hle.trans (fO.trans bZ)) Ln (St.deep (σ1:=σ3) (St.deep (σ1:= .blk b3 x.v::σ3) (hs.perm (.swap _ _ _))));rw [Km r4] at A0;refine .yield (vs:=[.agg x.back.v.toArray]) rfl rfl A0 ?_;rintro v35 w ⟨H4,σ4,eH,hs,g4⟩;obtain ⟨bb4,rfl,gT4,gF4⟩:=q7 g4;replace hs:St H4 w (.blk b3 x.v:: .blk b2 [.func (.yield l) #[] #[]]::(σ4++xt)):=(St.shallow (σ1:= .blk b3 x.v::σ4) (St.shallow (σ1:=σ4) hs)).perm (.swap _ _ _);refine .go (.zw 22 rfl fU ?_);refine .z 23 rfl zpT ?_;refine .D hs ?_;refine (.cond rfl (fun qb=>?_) (fun qb=>?_))
    ·exact .ret (rB (⟨H4,.blk b2 [.func (.yield l) #[] #[]]::σ4,bZ.trans eH,hs.tail,rfl,σ4,rfl,fO.trans (bZ.trans eH),gF4 (by simpa using qb)⟩))
    ·exact .skip (nB ⟨H4,.blk b2 [.func (.yield l) #[] #[]]::σ4,bZ.trans eH,hs.tail,σ4,rfl,fO.trans (bZ.trans eH),by rw [r5];exact gT4 (by simpa using qb)⟩)
   ·refine .F 10 rfl ?_;refine .F 11 rfl (.F 12 rfl (.F 13 rfl (.F 14 rfl (.F 15 rfl (.F 16 rfl (.F 17 rfl (.F 18 rfl (.F 19 rfl (.F 20 rfl (.F 21 rfl (.F 22 rfl (.zw 23 rfl zpF ?_))))))))))));refine .D hs ?_;exact (.cF (.skip (nB ⟨H3,.blk b2 [.func (.yield l) #[] #[]]::σ3,bZ,hs.tail,σ3,rfl,fO.trans bZ,by rw [r3 pN];exact Ln⟩)))
 ·rintro D H2 xu w bg ⟨σo,rfl,fO,Yh⟩ hs;exact nB (Fin.Vn [D] [] hs.GO fun w hs=>⟨_,results0 results274,H2,σo,fO,hs,.inl (by simpa [MS hlen] using Yh)⟩)
 ·rintro D c H2 xu w bg ⟨rfl,σo,rfl,fO,hx⟩ hs;exact .ret (rB (Fin.iT [D] [] hs.GO fun w hs=>⟨_,results0 results274,H2,σo,fO,hs,.inr hx⟩))
theorem m8{w:World}{s:dv}(hs:St H w σ)(aZ:s.Ok)(hF:AQ H bf s ts lf vl bt bl cl sp)(fb:ts.length=s.df.length):
  aaR 226 [Pt bf] w fun v w'=>∃H1 b,HLe H H1∧v= .func (.func 274) #[] #[Pt b]∧ItA Tryz.prog 274 [Pt b] H1 (dz s.dG ts)∧St H1 w' σ:=by
 refine Cl.o func226 ntmps226 ag1 ?_;refine .af (.bx hs fun b1 w hs=>?_);refine .zn zg (.af (.q hs (dU (f:=[]) (c:=[_]) rfl rfl) (.zn zg (.ret (Fin.bj results226 rfl ?_)))));obtain ⟨H1,g1,g2,hs⟩:=hs.dh .here;exact ⟨H1,b1,g1,rfl,qV aZ g2 (hF.mono g1) fb,hs⟩
theorem tZ{w:World}{to:Nat}{s:dv}(hs:St H w σ)(aZ:s.Ok)(hF:AQ H bf s ts lf vl bt bl cl sp)(fb:ts.length=s.df.length)(wq:lf.length=s.n)
  (hD:∃p,ja (dz s.dG ts) p) (th:to<s.n) (IF:0<gi lf to):
  aaR 272 [Pt bf,I to] w fun v w'=>∃H1 p en,HLe H H1∧cU 4 v (lA p) en∧St H1 w' (en::σ)∧YQ s.n s.dG ts lf p to:=by
 obtain ⟨N,hN⟩:=Int.eq_ofNat_of_zero_le aZ.m0;have Vh:=aZ.m1;have hn:s.n=N+1:=by simp [dv.n,hN]
 have p9:=aZ.dG;have hlen:s.dG.length=ts.length:=by simp [dv.dG,fE,fb]
 rw [hn] at p9 wq th ⊢;obtain ⟨D,hg⟩:=GR ai ai p9 hlen hD;have ZP:cellAt H bf 0=some (I (N:Int)):=by have:=hF.f.at 0 (v:=I s.many);rwa [hN] at this
 have U9:cellAt H bf 3=some (.slice (some ⟨bl,0,none⟩) lf.length cl):=hF.f.at 3;refine Cl.o func272 ntmps272 ag2 ?_;refine .af (.bx hs fun b2 w hs=>?_);refine .zn zg (.af (.o (.buildSlice (cells:=[_]) hs cV rfl rfl fun kP w hs=>?_)));refine .y hs (zld PG) (.z znc (.z (zfa gO) (.z (zfa cz) (.y hs (zld aj) (.z cH (.o (.call call296 rfl (wF (z:=far) (c:=N+1) hs .here ai ai) ?_)))))));rintro _ w ⟨bc,rfl,hs⟩;refine .o (.alloc hs gS rfl fun b5 w hs=>?_);refine .o (.store hs rfl rfl aI fun w hs=>?_);refine .nil (.af (.y hs (zld PG) (.z znc (.z (zfa gO) (.z (zfa cz) (.y hs (zld aj) (.z cH (.o (.M6 (N+1) hs rfl rfl aK Y2 rfl bq iR ai fun AK w hs=>?_)))))))));refine .o (.alloc hs zeroValue267 rfl fun b6 w hs=>?_);refine .o (.store hs rfl rfl UF fun w hs=>?_);refine .nil (.seq (.af (.y hs (zld PG) (.z znc (.z (zfa eO) (.y hs (zld aq) (.z (de ae) (.zn zm (.for (N:=lf.length) (J:=fun k fr w=>fr=[(31,.slice (some ⟨bl,0,none⟩) lf.length cl),(5,Pt b5),(6,Pt b6),(2,Pt b2),(1,I to)]∧∃st,AO (N+1) lf k st∧St H w (.blk b6 [.slice (some ⟨AK,0,none⟩) (N+1) (N+1)]:: .blk AK (lA st.by_):: .blk b5 [.slice (some ⟨bc,0,none⟩) (N+1) (N+1)]:: .blk bc (Is st.cost):: .blk b2 [Pt bf]::σ)) ai ?_ ?_ ?_)))))))))
 ·exact .mk ⟨rfl,_,.start _ _,hs.sb⟩
 ·rintro k fr w hk ⟨rfl,st,hI,hs⟩;have Xj:cellAt H bl k=some (I (gi lf k)):=hF.d.at k (so (bu hk) sp);have Dv:=hI.lc;have Dw:=hI.lb;have ZK:k<st.by_.length:=by omega
  refine .block (.af (.z zm ?_));first|(refine .ixv hs ae an ?_;intro Vs o36 oN)|refine .z (zix ae an) ?_
  refine .q hs (aC rfl aj Xj) (.z zg (.zn zg (.af (.z zm (.zn fN (.bh rfl (fun kd=>?_) (fun kd=>?_)))))))
  ·refine .af (.y hs (zld aq) (.z zm ?_));first|(refine .ixv hs ae an ?_;intro R0 o42 tV)|refine .z (zix ae an) ?_
   refine .o (.store hs rfl rfl an fun w hs=>?_);refine .nil (.region (.y hs (zld nb) (.z zm ?_)));first|(refine .ixw hs aK bq ?_;intro Vr o45 Bo)|refine .z (oe aK bq) ?_
   refine .z (zfa eN) (.o (.store hs rfl rfl an ?_ dy (HN ZK ai) (E4 ZK _)));intro w hs;exact .nil (nB (nT (.mk ⟨rfl,_,hI.take ai kd,hs⟩)))
  ·exact .skip (nB (nT (.mk ⟨rfl,_,hI.skip kd,hs⟩)))
 ·rintro fr w ⟨rfl,st0,B5,hs⟩;rw [wq] at B5;have Ll:=B5.inv hg;refine nT (.seq (.af (.o (.alloc hs zeroValue4 rfl fun b9 w hs=>?_))));refine .o (.store hs rfl rfl Om fun w hs=>?_);refine .nil (.block ?_);refine .loop (fun p:Nat×List Nat×cu×BS×Bool=>⟨141,marks p.2.1,[(9,.pointer (some ⟨p.1,0,none⟩)),(5,Pt b5),(6,Pt b6),(2,Pt b2),(1,I to)]⟩)
   (fun p w=>HLe H p.2.2.1∧(∃j,zh (N+1) (dz s.dG ts) (fun v=>gi lf v<0) D j p.2.2.2.2 p.2.2.2.1∧(p.2.2.2.2=false→j=(dz s.dG ts).length))∧
    St p.2.2.1 w (.blk p.1 [.bool p.2.2.2.2]:: .blk b6 [.slice (some ⟨AK,0,none⟩) (N+1) (N+1)]:: .blk AK (lA p.2.2.2.1.by_):: .blk b5 [.slice (some ⟨bc,0,none⟩) (N+1) (N+1)]:: .blk bc (Is p.2.2.2.1.cost):: .blk b2 [Pt bf]::(mes p.2.1++σ)))
   (fun p=>2*WM (N+1) D p.2.2.2.1+(if p.2.2.2.2=true then 1 else 0)) (b9,[],H,st0,true) aH ⟨HLe.refl _,⟨0,Ll,fun h=>by cases h⟩,hs⟩ ?_
  rintro ⟨b9,Ds,H1,st,ag⟩ w ⟨az,⟨j,hW,hj⟩,hs⟩;dsimp only at az hW hj hs ⊢;have Dv:=hW.lc;have Dw:=hW.lb;refine .seq (.af (.y hs (zld Y9) (.nil (.cond rfl (fun mI=>?_) (fun mI=>?_)))))
  ·refine .skip (nT (.seq (.block (.af ?_))));subst mI;refine .o (.store hs rfl rfl Om fun w hs=>?_);refine .nil (.af (.y hs (zld PG) (.o (.call call226 rfl (m8 hs aZ (hF.mono az) fb) ?_))));rintro _ w ⟨H2,Yt,bg,rfl,qO,hs⟩;refine .nil (.block ?_);refine .rangeFunc (gf:=274) (cap:=[Pt Yt]) (xs:=(dz s.dG ts).map fun x:Arc=>[Value.agg x.v.toArray])
    (σb:=[.blk b9 [.bool false],.blk b6 [.slice (some ⟨AK,0,none⟩) (N+1) (N+1)],.blk AK (lA st.by_),.blk b5 [.slice (some ⟨bc,0,none⟩) (N+1) (N+1)],.blk bc (Is st.cost),.blk b2 [Pt bf]]) (σf:=mes Ds++σ) hs trivial rfl qO call274 bH rfl
    (I:=fun k H' σb=>HLe H2 H'∧∃Fa ag,σb=[.blk b9 [.bool ag],.blk b6 [.slice (some ⟨AK,0,none⟩) (N+1) (N+1)],.blk AK (lA Fa.by_),.blk b5 [.slice (some ⟨bc,0,none⟩) (N+1) (N+1)],.blk bc (Is Fa.cost),.blk b2 [Pt bf]]∧
     zh (N+1) (dz s.dG ts) (fun v=>gi lf v<0) D k ag Fa∧WM (N+1) D Fa≤WM (N+1) D st∧(ag=true→WM (N+1) D Fa<WM (N+1) D st)) (Ix:=fun _ _ _=>False)
    (by rintro k _ _ σ g1 ⟨g2,g3⟩;exact ⟨g2.trans g1,g3⟩) (fun _ _ _ _ _ h=>h) ⟨HLe.refl _,st,false,rfl,hW.next,Nat.le_refl _,fun h=>by cases h⟩ ?_ ?_ (fun D c H' σb w _ h _=>h.elim)
   ·rintro l k hk H3 Mf σf3 w bZ ⟨rM,Fa,ag,rfl,Dx,Jo,RG⟩ hs ⟨rr,Du⟩;obtain ⟨x,hx⟩:=nth (l:=dz s.dG ts) (by simpa using hk);obtain ⟨c1,c2,c3,c4,c5,c6⟩:=hg.ok x (List.mem_of_getElem? hx);rw [Km hx];have hlc':=Dx.lc;have hlb':=Dx.lb;have lo1:=Dx.lo x.f c1;have lo2:=hg.d1 x.f c1;have Zn:cellAt H3 bl x.t=some (I (gi lf x.t)):=((hF.mono (az.trans (bg.trans bZ))).d).at x.t (so (bu ai) sp);have hf33:cellAt H3 bf 3=some (.slice (some ⟨bl,0,none⟩) lf.length cl):=cellAt.mono U9 (az.trans (bg.trans bZ));refine .region (.o (.alloc hs iR rfl fun ny w hs=>?_));refine .o (.aE (vs:=x.v) hs rfl rfl bq fun w hs=>?_);refine .nil (nT ⟨H3,[.blk ny x.v,.blk b9 [.bool ag],.blk b6 [.slice (some ⟨AK,0,none⟩) (N+1) (N+1)],.blk AK (lA Fa.by_),.blk b5 [.slice (some ⟨bc,0,none⟩) (N+1) (N+1)],.blk bc (Is Fa.cost),.blk b2 [Pt bf]],HLe.refl _,hs,?_⟩);rintro w oI - hs;refine .block (.seq (.draw mix rfl hs fun w hs=>?_));refine .y 0 rfl hs aq ?_;refine .z 1 rfl (zfa dQ) ?_;refine .y 2 rfl hs aj ?_;first|(refine .ixv 3 rfl hs ae an ?_;intro aaM o55 Qy)|refine .z 3 rfl (zix ae an) ?_
    refine .y 4 rfl hs aj ?_;refine .z 5 rfl fN ?_;refine .z 6 rfl zm ?_;refine .iz (t':=58) rfl (fun yD=>?_) (fun yD=>?_)
    ·refine .y 7 rfl hs aq ?_;refine .z 8 rfl (zfa dQ) ?_;refine .y 9 rfl hs aj ?_;first|(refine .ixv 10 rfl hs ae an ?_;intro Pw o62 CW)|refine .z 10 rfl (zix ae an) ?_
     refine .y 11 rfl hs aj ?_;refine .z 12 rfl (zfa gN) ?_;refine .y 13 rfl hs aj ?_;refine .z 14 rfl cH ?_;refine .y 15 rfl hs aq ?_;refine .z 16 rfl (zfa dZ) ?_;refine .y 17 rfl hs aj ?_;first|(refine .ixv 18 rfl hs ae an ?_;intro b70 o70 NC)|refine .z 18 rfl (zix ae an) ?_
     refine .y 19 rfl hs aj ?_;refine .z 20 rfl fN ?_;refine .z 21 rfl zpT ?_;refine .z 22 rfl zm ?_;refine .iz (t':=74) rfl (fun IS=>?_) (fun IS=>?_)
     ·refine .y 23 rfl hs PG ?_;refine .z 24 rfl znc ?_;refine .z 25 rfl (zfa eO) ?_;refine .y 26 rfl hs aq ?_;refine .z 27 rfl (zfa dZ) ?_;refine .y 28 rfl hs aj ?_;first|(refine .ixv 29 rfl hs ae an ?_;intro b81 o81 Tq)|refine .z 29 rfl (zix ae an) ?_
      refine .y 30 rfl hs aj ?_;refine .z 31 rfl xv ?_;refine .z 32 rfl zm ?_;refine .iz (t':=84) rfl (fun ED=>?_) (fun ED=>?_)
      ·refine .F 33 rfl (.F 34 rfl (.F 35 rfl (.F 36 rfl (.F 37 rfl (.F 38 rfl (.F 39 rfl (.F 40 rfl (.F 41 rfl (.zw 42 rfl zpT ?_)))))))));refine .z 43 rfl zpT ?_;refine .D hs ?_;refine (.cT (.draw mix rfl hs fun w hs=>?_));refine .y 0 rfl hs aq ?_;refine .z 1 rfl (zfa dZ) ?_;refine .y 2 rfl hs aj ?_;refine .y 3 rfl hs nb ?_;refine .z 4 rfl (zfa dZ) ?_;refine .y 5 rfl hs aj ?_;refine .y 6 rfl hs aq ?_;refine .z 7 rfl (zfa dQ) ?_;refine .y 8 rfl hs aj ?_;first|(refine .ixv 9 rfl hs ae an ?_;intro YN o105 TI)|refine .z 9 rfl (zix ae an) ?_
       refine .y 10 rfl hs aj ?_;refine .z 11 rfl (zfa gN) ?_;refine .y 12 rfl hs aj ?_;refine .z 13 rfl cH ?_;refine .Iz (i:=14) (vs:=x.v) hs rfl aA .none rfl q6 bq ?_;first|(refine .ixv 15 rfl hs ae an ?_;intro YK o111 B1)|refine .z 15 rfl (zix ae an) ?_
       refine .E 16 hs ?_;refine .store hs rfl rfl an ?_;intro w hs;refine .go ?_;first|(refine .ixw 17 rfl hs aK bq ?_;intro Uu o112 As)|refine .z 17 rfl (oe aK bq) ?_
       refine .E 18 hs ?_;refine .aE (vs:=x.v) hs rfl rfl bq ?_;intro w hs;refine .go (.E 19 hs ?_);refine .store hs rfl rfl Om ?_;intro w hs;refine .go (.D hs (nB ?_));have:=Dx.less hg hx yD IS;exact ⟨H3,_,HLe.refl _,hs.tail,rM,Fa.rlx x,true,rfl,Dx.Bd hg hx yD IS,ai,fun _=>by omega⟩
      ·refine .y 33 rfl hs aq ?_;refine .z 34 rfl (zfa dQ) ?_;refine .y 35 rfl hs aj ?_;first|(refine .ixv 36 rfl hs ae an ?_;intro aaI o88 tS)|refine .z 36 rfl (zix ae an) ?_
       refine .y 37 rfl hs aj ?_;refine .z 38 rfl (zfa gN) ?_;refine .y 39 rfl hs aj ?_;refine .z 40 rfl cH ?_;refine .z 41 rfl fN ?_;refine .z 42 rfl zpF ?_;refine .z 43 rfl zpT ?_;refine .D hs ?_;refine (.bh rfl (fun Xo=>?_) (fun Xo=>?_))
       ·refine .draw mix rfl hs fun w hs=>?_
        refine .y 0 rfl hs aq ?_;refine .z 1 rfl (zfa dZ) ?_;refine .y 2 rfl hs aj ?_;refine .y 3 rfl hs nb ?_;refine .z 4 rfl (zfa dZ) ?_;refine .y 5 rfl hs aj ?_;refine .y 6 rfl hs aq ?_;refine .z 7 rfl (zfa dQ) ?_;refine .y 8 rfl hs aj ?_;first|(refine .ixv 9 rfl hs ae an ?_;intro YN o105 TI)|refine .z 9 rfl (zix ae an) ?_
        refine .y 10 rfl hs aj ?_;refine .z 11 rfl (zfa gN) ?_;refine .y 12 rfl hs aj ?_;refine .z 13 rfl cH ?_;refine .Iz (i:=14) (vs:=x.v) hs rfl aA .none rfl q6 bq ?_;first|(refine .ixv 15 rfl hs ae an ?_;intro YK o111 B1)|refine .z 15 rfl (zix ae an) ?_
        refine .E 16 hs ?_;refine .store hs rfl rfl an ?_;intro w hs;refine .go ?_;first|(refine .ixw 17 rfl hs aK bq ?_;intro Uu o112 As)|refine .z 17 rfl (oe aK bq) ?_
        refine .E 18 hs ?_;refine .aE (vs:=x.v) hs rfl rfl bq ?_;intro w hs;refine .go (.E 19 hs ?_);refine .store hs rfl rfl Om ?_;intro w hs;refine .go (.D hs (nB ?_));have:=Dx.less hg hx yD IS;exact ⟨H3,_,HLe.refl _,hs.tail,rM,Fa.rlx x,true,rfl,Dx.Bd hg hx yD IS,ai,fun _=>by omega⟩
       ·refine .skip (nB ?_);have:=Dx.src x.t c2 ai;omega
     ·refine .F 23 rfl (.F 24 rfl (.F 25 rfl (.F 26 rfl (.F 27 rfl (.F 28 rfl (.F 29 rfl (.F 30 rfl ?_)))))));refine .F 31 rfl (.F 32 rfl (.F 33 rfl (.F 34 rfl (.F 35 rfl (.F 36 rfl (.F 37 rfl (.F 38 rfl (.F 39 rfl (.F 40 rfl (.F 41 rfl (.F 42 rfl (.zw 43 rfl zpF ?_))))))))))));refine .D hs ?_;exact (.cF (.skip (nB ⟨H3,_,HLe.refl _,hs.tail,rM,Fa,ag,rfl,Dx.skip hx (fun h=>IS h.2),Jo,RG⟩)))
    ·refine .F 7 rfl (.F 8 rfl ?_);refine .F 9 rfl (.F 10 rfl (.F 11 rfl (.F 12 rfl (.F 13 rfl (.F 14 rfl (.F 15 rfl (.F 16 rfl (.F 17 rfl (.F 18 rfl (.F 19 rfl (.F 20 rfl (.zw 21 rfl zpF ?_))))))))))));refine .z 22 rfl zm ?_;refine .F 23 rfl (.F 24 rfl (.F 25 rfl (.F 26 rfl (.F 27 rfl (.F 28 rfl (.F 29 rfl (.F 30 rfl ?_)))))));refine .F 31 rfl (.F 32 rfl (.F 33 rfl (.F 34 rfl (.F 35 rfl (.F 36 rfl (.F 37 rfl (.F 38 rfl (.F 39 rfl (.F 40 rfl (.F 41 rfl (.F 42 rfl (.zw 43 rfl zpF ?_))))))))))));refine .D hs ?_;exact (.cF (.skip (nB ⟨H3,_,HLe.refl _,hs.tail,rM,Fa,ag,rfl,Dx.skip hx (fun h=>yD h.1),Jo,RG⟩)))
   ·rintro D3 H3 Mf w bZ ⟨rM,Fa,ag,rfl,Dx,Jo,RG⟩ hs;replace hs:St H3 w (.blk b9 [.bool ag]:: .blk b6 [.slice (some ⟨AK,0,none⟩) (N+1) (N+1)]:: .blk AK (lA Fa.by_):: .blk b5 [.slice (some ⟨bc,0,none⟩) (N+1) (N+1)]:: .blk bc (Is Fa.cost):: .blk b2 [Pt bf]::(mes (D3::Ds)++σ)):=St.deep (σ1:=[_,_,_,_,_,_]) hs;rw [List.length_map] at Dx;refine nB (nB (nT (.af (.y hs (zld Y9) (.nil (.region (.o (.alloc hs zeroValue4 rfl fun b9 w hs=>?_))))))));refine .o (.store hs rfl rfl Om fun w hs=>?_);refine .nil (nT ?_);exact ⟨(b9,D3::Ds,H3,Fa,ag),aH,⟨az.trans (bg.trans bZ),⟨_,Dx,fun _=>rfl⟩,hs.sb⟩,by
      dsimp only
      cases ag with
      |false=>simp;omega
      |true=>have:=RG rfl;simp;omega⟩
  ·refine .exit (xT (xT (xB (nT (.seq (.af ?_))))));subst mI;obtain rfl:=hj rfl;refine .y hs (zld aq) (.z zm ?_);first|(refine .ixv hs ae an ?_;intro b116 o116 aad)|refine .z (zix ae an) ?_
   refine .y hs (zld aj) (.zn fy (.bh rfl (fun Pa=>?_) (fun Pa=>?_)))
   ·refine .af (.zn zg (.ret (rT ((Fin.iT Ds [_,_,_,_,_,_] hs fun w hs=>⟨_,results1 results272 rfl,H1,[],.nul,az,.nil 4 none,(hs.sb).nul,hW.none hg Pa⟩)))))
   ·refine .skip (nT (.af (.zn zg (.seq (.af (.z zm (.zn zg (.block ?_))))))));have KH:gi st.cost to<far:=by have:=hW.top to th;have e:far=1152921504606846976:=rfl;omega
    obtain ⟨kk,cc,u,Ju,xD,Nu,Fi,Et,Qa⟩:=hW.back hg th KH IF;refine .loop (fun p:Nat×Nat×Value×Ent=>⟨141,marks Ds,[(11,p.2.2.1),(12,I p.2.1),(6,Pt b6)]⟩)
     (fun p w=>p.1≤kk∧(p.2.1<N+1∧gi st.cost p.2.1<far)∧cU 4 p.2.2.1 (lA (kx st.by_ to p.1)) p.2.2.2∧(∃d,iU st.by_ to p.1 d p.2.1)∧(∃d,iU st.by_ p.2.1 (kk - p.1) d u)∧
      St H1 w (p.2.2.2:: .blk b9 [.bool false]:: .blk b6 [.slice (some ⟨AK,0,none⟩) (N+1) (N+1)]:: .blk AK (lA st.by_):: .blk b5 [.slice (some ⟨bc,0,none⟩) (N+1) (N+1)]:: .blk bc (Is st.cost):: .blk b2 [Pt bf]::(mes Ds++σ)))
     (fun p=>kk - p.1) (0,to,.slice none 0 0,.nul) aH ⟨Nat.zero_le _,⟨th,KH⟩,.nil 4 none,⟨0,.nil⟩,⟨cc,Ju⟩,hs.nul⟩ ?_
    rintro ⟨i,v,v11,en⟩ w ⟨W0,⟨Zq,Rz⟩,hO,⟨d1,B3⟩,⟨d2,y8⟩,hs⟩;dsimp only at W0 Zq Rz hO B3 y8 hs ⊢;have V5:v<st.by_.length:=by omega
    refine .seq (.af (.y hs (zld nb) (.z zm ?_)));first|(refine .ixw hs aK bq ?_;intro YG o122 O9)|refine .z (oe aK bq) ?_
    refine .z (zfa eN) (.q hs (eG rfl aj (hv:=(we V5 (j:=3) ai).trans rfl)) (.zn xv (.bh rfl (fun K9=>?_) (fun K9=>?_))))
    ·refine .skip (nT (.seq (.block (.region (.z zm (.y hs (zld nb) (.z zm ?_)))))));first|(refine .ixw hs aK bq ?_;intro YD o134 Hl)|refine .z (oe aK bq) ?_
     refine .q hs (mG (vs:=(ga st.by_ v).v) rfl q6 bq (hv:=HU V5)) (.o (.buildSlice (cells:=(ga st.by_ v).v) hs uc rfl rfl fun YC w hs=>?_));refine .o (.append (ys:=(ga st.by_ v).v) hs np rfl rfl hO (.own .here rfl rfl) (by simp [Arc.v,Value.oneCell']) (fun l h=>by rw [eJ,jz] at h;omega) ?_);intro v137 en137 w dY hs;refine .zn zg (nB (nT (.region (.y hs (zld nb) (.z zm ?_)))));first|(refine .ixw hs aK bq ?_;intro YE o128 TB)|refine .z (oe aK bq) ?_
     refine .z (zfa dQ) (.q hs (eG rfl aj (hv:=(we V5 (j:=0) ai).trans rfl)) (.zn zg (nT ?_)));obtain ⟨g1,g2⟩:=Et v Zq Rz K9;obtain ⟨m,hm⟩:∃m,kk - i=m+1:=by
      refine ⟨kk - i - 1,?_⟩
      rcases Nat.lt_or_ge i kk with h|h
      ·omega
      ·obtain e:kk - i=0:=by omega
       rw [e] at y8;cases y8
       omega
     rw [hm] at y8
     obtain ⟨d3,RO⟩:∃d,iU st.by_ (ga st.by_ v).f m d u:=by cases y8 with|cons _ t=>exact ⟨_,t⟩
     rw [←L3,←BI B3] at dY;exact ⟨(i+1,(ga st.by_ v).f,v137,en137),aH,⟨by dsimp only;omega,⟨g1,g2⟩,dY,⟨_,B3.trans (.cons K9 .nil)⟩,⟨d3,by rw [show kk - (i+1)=m by omega];exact RO⟩,hs.sb⟩,by dsimp only;omega⟩
    ·refine .exit (xT (xT (xB (nT (.af ?_)))));obtain rfl:i=kk:=by
      rcases Nat.lt_or_ge i kk with h|h
      ·obtain ⟨m,hm⟩:∃m,kk - i=m+1:=⟨kk - i - 1,ai⟩;rw [hm] at y8
       cases y8 with
       |cons hl _=>omega
      ·omega
     refine .z zm (.o (.call call297 rfl (tA hs hO (by rw [jz];omega)) ?_));rintro v139 w ⟨kO,T5,hs⟩;refine .nil (.af (.z zm (.zn zg (.ret (Fin.iT Ds [_,_,_,_,_,_,_] hs fun w hs=>⟨_,results1 results272 rfl,H1,_,kO,az,T5,hs.sb,Qa _ rfl⟩)))))
theorem HS{s:dv}{x:Arc}(aZ:s.Ok)(hx:Ja s.dG x):∃(i:Nat) (l:Lim),s.df[i]? =some l∧x.l=(i:Int)∧(l.A=(x.f:Int)↔fwd s.dG x)∧i<s.df.length:=by
 obtain ⟨i,y,h1,h2⟩:=hx;have hl:=vZ h1;have fb:i<s.df.length:=by have:=(List.getElem?_eq_some_iff.1 h1).1;simpa [dv.dG,fE] using this
 obtain ⟨l,Ns⟩:=nth fb;have h3:=nz Ns;have Pp:(qz s.df)[i]? =some y:=h1;rw [h3] at Pp;cases Pp
 obtain ⟨a1,a2,_⟩:=aZ.arc (List.mem_of_getElem? Ns) i;refine ⟨i,l,Ns,?_,?_,fb⟩
 ·rcases h2 with rfl|rfl<;>rfl
 ·have hg:ga s.dG i=l.arc i:=by simp [ga,dv.dG,h3]
  have sV:x.l.toNat=i:=by rcases h2 with rfl|rfl<;>rfl
  unfold fwd;rw [sV,hg,←a1];exact ⟨fun e=>by exact_mod_cast e,fun e=>by exact_mod_cast e⟩
theorem mn{w:World}{s:dv}{vd:Value}{x:Arc}(hs:St H w σ)(aZ:s.Ok)(hf:Row H bf [I s.many,vl,vt,vd])(hl:RL H vl s.df)(hx:Ja s.dG x):
  aaR 298 [Pt bf,.agg x.v.toArray] w fun v w'=>v= .bool (decide (fwd s.dG x))∧St H w' σ:=by
 obtain ⟨i,l,Nt,sV,hfw,pI⟩:=HS aZ hx;have hf1:cellAt H bf 1=some vl:=hf.at 1;refine Cl.o func298 ntmps298 ag2 ?_;refine .af (.bx hs fun b3 w hs=>?_);refine .zn zg (.seq (.draw mix rfl hs fun w hs=>?_));refine .zw 0 rfl zm ?_;refine .z 1 rfl znc ?_;refine .z 2 rfl (zfa gO) ?_;refine .z 3 rfl (zfa cO) ?_;refine .y 4 rfl hs gz ?_;refine .z 5 rfl (zfa eN) ?_;refine .y 6 rfl hs aj ?_;refine .ixX (i:=7) hs rfl aA .none hl rfl rfl aO bU Nt sV ?_;intro I3 o12 fl;have hA:cellAt H I3 o12=some (I l.A):=fl.get 0 rfl;refine .zw 8 rfl (zfa dS) ?_;refine .y 9 rfl hs aj ?_;refine .z 10 rfl (zfa dQ) ?_;refine .y 11 rfl hs aj ?_;refine .z 12 rfl fy ?_;refine .z 13 rfl zg ?_;refine .D hs ?_;exact .ret (Fin.bj results298 rfl ⟨by simp only [decide_eq_decide.2 hfw],hs.out⟩)
theorem s7{w:World}{u v:Nat}{s:dv}{wt:Nat→Int}{p:List Arc}(hs:St H w (.blk bt (Is ts):: .blk bl (Is lf++sp)::σ))(aZ:s.Ok)
  (hf:Row H bf [I s.many,vl,.slice (some ⟨bt,0,none⟩) ts.length ts.length,.slice (some ⟨bl,0,none⟩) lf.length cl]) (hl:RL H vl s.df) (hp:RS H 4 vp (p.map Arc.v)) (hI:BC s.n s.dG wt ts lf) (hw:Rl s.dG ts lf s.n p u v) (Qj:p≠[]) (Jn:p.length<s.n):
  aaR 273 [Pt bf,vp] w fun _ w'=>St H w' (.blk bt (Is (gC s.dG (u9 s.dG ts lf p u v) ts p)):: .blk bl (Is (D8 lf (u9 s.dG ts lf p u v) u v)++sp)::σ):=by
 have Vh:=aZ.m1;have Bk:s.n≤65:=by simp only [dv.n];have:=aZ.m0;omega
 have w5:Gv s.dG:=fun i x hx=>⟨vZ hx,(aZ.dG.2 x (List.mem_of_getElem? hx)).2.2.2.2.2⟩
 have fb:=hI.lt;have wq:=hI.ll;obtain ⟨m0,m1,m2,m3⟩:=yV fb.symm w5 hw;have hsu:=hI.sg u hw.un;have Zs:=hI.sg v hw.vn;have OM:u<lf.length:=by rw [wq];exact hw.un
 have UW:v<lf.length:=by rw [wq];exact hw.vn
 obtain ⟨a,cap,Zo⟩:=hp.shape;rw [List.length_map] at Zo;subst Zo;have hp0:0<p.length:=List.length_pos_iff.2 Qj;obtain ⟨x0,Dt⟩:=nth hp0;obtain ⟨x1,wZ⟩:=nth (l:=p) (k:=p.length - 1) ai;have hh:=hw.ch.head Dt;have OT:=hw.ch.last wZ;have hf2:cellAt H bf 2=some (.slice (some ⟨bt,0,none⟩) ts.length ts.length):=hf.at 2;have U9:cellAt H bf 3=some (.slice (some ⟨bl,0,none⟩) lf.length cl):=hf.at 3;have Th:∀x∈p,Ja s.dG x∧x.l.toNat<ts.length∧x.l=(x.l.toNat:Int):=fun x hx=>by
  obtain ⟨g1,g2,_⟩:=lW fb.symm w5 (hw.mem x hx);obtain ⟨i,l,_,g3,_⟩:=HS aZ g1;exact ⟨g1,g2,by rw [g3];simp⟩
 simp only [FF] at hsu Zs;have OL:v≠u:=fun e=>by have:=hw.lu;have:=hw.lv;rw [e] at*;omega
 have htt:∀i<ts.length,0≤gi ts i∧gi ts i≤3600000000000:=fun i hi=>by
  have h1:=hI.nn i ai;have h2:=hI.tb i ai;have h3:0≤rem s.n lf:=dx fun v _=>by omega
  simp only [FF] at h2;omega
 have hM:u9 s.dG ts lf p u v=least s.dG ts (min (-gi lf u) (gi lf v)) p:=rfl;generalize u9 s.dG ts lf p u v=M at*;have W5:gi (lf.set u (gi lf u+M)) v=gi lf v:=by rw [fo OM,if_neg OL]
 refine Cl.o func273 ntmps273 ag2 ?_;refine .seq (.draw mix rfl hs fun w hs=>?_);refine .zw 0 rfl zm (.ixX (i:=1) hs rfl aA .none hp rfl rfl aK bq Dt rfl ?_);intro I3 o12 fl;have h14:cellAt H I3 (o12+0)=some (I u):=by rw [←hh];exact fl.get 0 rfl
 refine .zw 2 rfl (zfa dQ) ?_;refine .y 3 rfl hs aj ?_;refine .z 4 rfl zm ?_;refine .z 5 rfl zm ?_;refine .z 6 rfl (de aK) ?_;refine .z 7 rfl gx ?_;refine .ixX (i:=8) hs rfl aA .none hp rfl rfl aK bq wZ ai ?_;intro pU o19 mL;have h21:cellAt H pU (o19+1)=some (I v):=by rw [←OT];exact mL.get 1 rfl
 refine .zw 9 rfl (zfa dZ) ?_;refine .y 10 rfl hs aj ?_;refine .z 11 rfl zg ?_;refine .z 12 rfl zg ?_;refine .D hs ?_;refine .seq (.draw mix rfl hs fun w hs=>?_);refine .zw 0 rfl zm ?_;refine .z 1 rfl znc ?_;refine .z 2 rfl (zfa eO) ?_;refine .y 3 rfl hs aq ?_;refine .z 4 rfl zm ?_;first|(refine .ixv 5 rfl hs ae an ?_;intro AK o27 qQ)|refine .z 5 rfl (zix ae an) ?_
 refine .load (i:=6) hs rfl aA .none rfl aj ?_ (hv:=gQ OM sp);refine .zw 7 rfl Fm ?_;refine .z 8 rfl zm ?_;refine .z 9 rfl znc ?_;refine .z 10 rfl (zfa eO) ?_;refine .y 11 rfl hs aq ?_;refine .z 12 rfl zm ?_;first|(refine .ixv 13 rfl hs ae an ?_;intro Oa o35 nj)|refine .z 13 rfl (zix ae an) ?_
 refine .load (i:=14) hs rfl aA .none rfl aj ?_ (hv:=gQ UW sp);refine .zw 15 rfl Dq ?_;refine .z 16 rfl zg ?_;refine .D hs ?_;refine .seq (.af (.z zm (.z (de aK) (.zn zm (.for (N:=p.length) (J:=fun k fr w=>fr=[(38,.slice a p.length cap),(6,I (least s.dG ts (min (-gi lf u) (gi lf v)) (p.take k))),(0,Pt bf),(1,.slice a p.length cap),(4,I u),(5,I v)]∧St H w (.blk bt (Is ts):: .blk bl (Is lf++sp)::σ)) ai ?_ ?_ ?_)))))
 ·exact .mk ⟨rfl,hs⟩
 ·rintro k fr w hk ⟨rfl,hs⟩;obtain ⟨x,hx⟩:=nth hk;obtain ⟨g1,g2,g3⟩:=Th x (List.mem_of_getElem? hx);refine .block (.af (.ixX hs hp rfl rfl aK bq hx rfl ?_));intro R0 o42 tV;refine .q hs (bQ (vs:=x.v) rfl q6 bq tV) (.o (.alloc hs iR rfl fun b8 w hs=>?_));refine .o (.aE (vs:=x.v) hs rfl rfl bq fun w hs=>?_);refine .nil (.af (.z zm (.q hs (mG (vs:=x.v) rfl q6 bq) (.o (.call call298 rfl (mn hs aZ hf hl g1) ?_)))));rintro _ w ⟨rfl,hs⟩;refine .zn fU (.cond rfl (fun lC=>?_) (fun lC=>?_))
  ·refine .draw mix rfl hs fun w hs=>?_
   refine .zw 0 rfl zm ?_;refine .z 1 rfl zm ?_;refine .z 2 rfl znc ?_;refine .z 3 rfl (zfa jK) ?_;refine .y 4 rfl hs aq ?_;refine .z 5 rfl (zfa eN) ?_;refine .y 6 rfl hs aj ?_;refine .zw 7 rfl (eS (k:=x.l.toNat) rfl rfl ae an g3 g2) (.y 8 rfl hs aj ?_);refine .z 9 rfl Dq ?_;refine .z 10 rfl zg ?_;refine .D hs ?_;refine nB (nT ?_);have e:min (least s.dG ts (min (-gi lf u) (gi lf v)) (p.take k)) (gi ts x.l.toNat)=least s.dG ts (min (-gi lf u) (gi lf v)) (p.take (k+1)):=by rw [dr hx,pE,if_neg (by simpa using lC)]
   exact .mk ⟨rfl,hs.tail⟩ (hs:= .cons rfl (.cons rfl (.cons rfl (.cD rfl e (.cons rfl (.cons rfl (.cons rfl (.cons rfl (.nil rfl rfl)))))))))
  ·refine .skip (nB (nT ?_));have e:least s.dG ts (min (-gi lf u) (gi lf v)) (p.take k)=least s.dG ts (min (-gi lf u) (gi lf v)) (p.take (k+1)):=by rw [dr hx,pE,if_pos (by simpa using lC)]
   exact .mk ⟨rfl,hs.tail⟩ (hs:= .cons rfl (.cons rfl (.cons rfl (.cD rfl e (.cons rfl (.cons rfl (.cons rfl (.cons rfl (.nil rfl rfl)))))))))
 ·rintro fr w ⟨rfl,hs⟩;have e6:least s.dG ts (min (-gi lf u) (gi lf v)) (List.take p.length p)=M:=by rw [List.take_length];exact hM.symm
  rw [e6];refine nT (.seq (.af (.z zm (.z (de aK) (.zn zm (.for (N:=p.length) (J:=fun k fr w=>fr=[(59,.slice a p.length cap),(6,I M),(0,Pt bf),(1,.slice a p.length cap),(4,I u),(5,I v)]∧St H w (.blk bt (Is (gC s.dG M ts (p.take k))):: .blk bl (Is lf++sp)::σ)) ai ?_ ?_ ?_))))))
  ·exact .mk ⟨rfl,hs⟩
  ·rintro k fr w hk ⟨rfl,hs⟩;obtain ⟨x,hx⟩:=nth hk;obtain ⟨g1,g2,g3⟩:=Th x (List.mem_of_getElem? hx);have hpl2:=ld s.dG M (p.take k) ts;have sZ:=D5 (es:=s.dG) (m:=M) (ts:=ts) (p:=p.take k) ai (by simp only [FF];omega) (by rw [List.length_take];omega) (fun y hy=>(Th y (List.mem_of_mem_take hy)).2.1) x.l.toNat;have h9:=htt _ g2;refine .block (.af (.ixX hs hp rfl rfl aK bq hx rfl ?_));intro Un o63 pK;refine .q hs (bQ (vs:=x.v) rfl q6 bq pK) (.o (.alloc hs iR rfl fun ny w hs=>?_));refine .o (.aE (vs:=x.v) hs rfl rfl bq fun w hs=>?_);refine .nil (.af (.z zm (.q hs (mG (vs:=x.v) rfl q6 bq) (.o (.call call298 rfl (mn hs aZ hf hl g1) ?_)))));rintro _ w ⟨rfl,hs⟩;refine .nil (.cond rfl (fun CV=>?_) (fun CV=>?_))
   ·refine .draw mix rfl hs fun w hs=>?_
    refine .zw 0 rfl zm ?_;refine .z 1 rfl znc ?_;refine .z 2 rfl (zfa jK) ?_;refine .y 3 rfl hs aq ?_;refine .z 4 rfl (zfa eN) ?_;refine .y 5 rfl hs aj ?_;refine .zw 6 rfl (eS (k:=x.l.toNat) rfl rfl ae an g3 g2) (.y 7 rfl hs aj ?_);refine .z 8 rfl zm ?_;refine .z 9 rfl cH ?_;refine .zw 10 rfl (eS (k:=x.l.toNat) rfl rfl ae an g3 g2) (.E 11 hs ?_);refine .store hs rfl rfl an ?_;intro w hs;refine .go (.D hs (nB (nT ?_)));have e:gC s.dG M ts (p.take (k+1))=(gC s.dG M ts (p.take k)).set x.l.toNat (gi (gC s.dG M ts (p.take k)) x.l.toNat+M):=by rw [dr hx,pZ,push,if_pos (by simpa using CV)]
    exact .mk ⟨rfl,by rw [e];exact hs.tail⟩
   ·refine .draw mix rfl hs fun w hs=>?_
    refine .zw 0 rfl zm ?_;refine .z 1 rfl znc ?_;refine .z 2 rfl (zfa jK) ?_;refine .y 3 rfl hs aq ?_;refine .z 4 rfl (zfa eN) ?_;refine .y 5 rfl hs aj ?_;refine .zw 6 rfl (eS (k:=x.l.toNat) rfl rfl ae an g3 g2) (.y 7 rfl hs aj ?_);refine .z 8 rfl zm ?_;refine .z 9 rfl gx ?_;refine .zw 10 rfl (eS (k:=x.l.toNat) rfl rfl ae an g3 g2) (.E 11 hs ?_);refine .store hs rfl rfl an ?_;intro w hs;refine .go (.D hs (nB (nT ?_)));have e:gC s.dG M ts (p.take (k+1))=(gC s.dG M ts (p.take k)).set x.l.toNat (gi (gC s.dG M ts (p.take k)) x.l.toNat - M):=by rw [dr hx,pZ,push,if_neg (by simpa using CV)]
    exact .mk ⟨rfl,by rw [e];exact hs.tail⟩
  ·rintro fr w ⟨rfl,hs⟩;rw [List.take_length] at hs;refine nT (.af (.z zm (.z znc (.z (zfa eO) (.y hs (zld aq) (.z zm ?_))))));first|(refine .ixv hs ae an ?_;intro b96 o96 NA)|refine .z (zix ae an) ?_
   refine .q hs (eG rfl aj (hv:=gQ OM sp)) (.z zm (.z cH ?_));first|(refine .ixv hs ae an ?_;intro Ri o100 nP)|refine .z (zix ae an) ?_
   refine .o (.store hs rfl rfl an ?_ dy (nS OM sp) (km OM sp _));intro w hs;refine .nil (.region (.z zm (.z znc (.z (zfa eO) (.y hs (zld aq) (.z zm ?_))))));first|(refine .ixv hs ae an ?_;intro Uv o106 tk)|refine .z (zix ae an) ?_
   refine .q hs (eG rfl aj (hv:=gQ (by rw [List.length_set];exact UW) sp)) ?_;refine .z zm (.z gx ?_);first|(refine .ixv hs ae an ?_;intro YL o110 TH)|refine .z (zix ae an) ?_
   refine .o (.store hs rfl rfl an ?_ dy (nS (by rw [List.length_set];exact UW) sp) (km (by rw [List.length_set];exact UW) sp _));intro w hs;exact .nil (Fin.EO results273 hs)
theorem Kr{w:List Int}{N:Nat}(hw:w.length=N+1):gi (w.set 0 (-mW w k)) 0 - gi (w.set 0 (-mW w k)) (k+1)= -mW w (k+1):=by
 rw [fo ai,fo ai,if_pos rfl,if_neg ai];simp only [mW,a8];omega
theorem AE{w:World}{v:Value}{s:dv}(hs:St H w σ)(aZ:s.Ok)(hr:RSy H v s)(ti:RI H vw ws)(Bj:ws.length=s.n)(wm:jw ws)(KE:s.Sound):
  aaR 224 [v,vw] w fun v w'=>(v= .tuple #[.pointer none,.bool false]∧pW s.dG (qC ws s.n) s.n∧St H w' σ)∨
   (∃H1 bf bt bl cl ts lf vl sp,HLe H H1∧v= .tuple #[Pt bf,.bool true]∧AQ H1 bf s ts lf vl bt bl cl sp∧sq s.n s.dG (qC ws s.n) ts∧St H1 w' σ):=by
 obtain ⟨vl,rfl,hr⟩:=hr;obtain ⟨al,cpl,rfl⟩:=RL.shape hr;obtain ⟨aw,cw,rfl⟩:=RI.shape ti;obtain ⟨N,hN⟩:=Int.eq_ofNat_of_zero_le aZ.m0;have Vh:=aZ.m1;have hn:s.n=N+1:=by simp [dv.n,hN]
 have FY:=aZ.len;have p9:=aZ.dG;have B4:s.dG.length=s.df.length:=by simp [dv.dG,fE]
 have w5:Gv s.dG:=fun i x hx=>⟨vZ hx,(aZ.dG.2 x (List.mem_of_getElem? hx)).2.2.2.2.2⟩
 have fL:∀x∈s.dG,x.f<s.n∧x.t<s.n:=fun x hx=>by have:=p9.2 x hx;omega
 have V1:=Jx ws (n:=s.n) ai;unfold jw at wm;rw [Bj] at wm;refine Cl.o func224 ntmps224 ag2 ?_;refine .af (.bx hs fun b2 w hs=>?_);refine .z zg (.zn zg (.scope (.cut (fun fs w=>∃bf bt bl cl sp,kG fs ⟨73,[],[(6,Pt bf)]⟩∧St H w (.blk bf [I s.many,.slice al s.df.length cpl,.slice (some ⟨bt,0,none⟩) s.df.length s.df.length,.slice (some ⟨bl,0,none⟩) ws.length cl]:: .blk bt (Is (List.replicate s.df.length 0)):: .blk bl (Is ws++sp)::σ)) ?_ ?_)))
 ·refine .draw mix rfl hs fun w hs=>?_
  refine .ys 0 rfl hs [_,_] cn aV ?_;refine .z 1 rfl (zfa cO) ?_;refine .y 2 rfl hs gz ?_;refine .z 3 rfl (de aO) ?_;refine .z 5 rfl zm ?_;refine .e2 (i:=4) (j:=6) aA rfl rfl rfl rfl .none .none hs ?_ ?_
  ·refine .yu s.df.length hs rfl rfl ae kS rfl an dD ai ?_;intro yM w hs;refine .go (.E 6 hs ?_);refine .call call171 rfl (qm hs ti ai) ?_;rintro v17 w ⟨en17,hO,hs⟩;obtain ⟨bl,cl,sp,rfl,rfl,A1⟩:=hO.some ai;refine .go (.zw 7 rfl (zbd [_,_,_,_] tq) (.E 8 hs ?_));refine .box hs rfl rfl ?_;intro pU w hs;refine .go (.zw 9 rfl zg ?_);refine .D hs ?_;exact nT ⟨pU,yM,bl,cl,sp,aH,hs.sb⟩
  ·refine .call call171 rfl (qm hs ti ai) ?_;rintro v17 w ⟨en17,hO,hs⟩;obtain ⟨bl,cl,sp,rfl,rfl,A1⟩:=hO.some ai;refine .go (.E 4 hs ?_);refine .yu s.df.length hs rfl rfl ae kS rfl an dD ai ?_;intro yM w hs;refine .go (.zw 7 rfl (zbd [_,_,_,_] tq) (.E 8 hs ?_));refine .box hs rfl rfl ?_;intro pU w hs;refine .go (.zw 9 rfl zg ?_);refine .D hs ?_;exact nT ⟨pU,yM,bl,cl,sp,aH,hs.sb⟩
 ·rintro fs w ⟨bf,bt,bl,cl,sp,fM,hs⟩;refine WE.sub ?_ fM;obtain ⟨H1,az,XR,hs⟩:=hs.dh .here;have ZP:cellAt H1 bf 0=some (I (N:Int)):=by have:=XR.at 0 (v:=I s.many);rwa [hN] at this
  have U9:cellAt H1 bf 3=some (.slice (some ⟨bl,0,none⟩) ws.length cl):=XR.at 3;have BY:=hr.mono az;refine .af (.z zm (.z znc (.z (zfa eO) (.y hs (zld aq) (.q hs (eS (k:=0) rfl rfl ae an rfl ai) (.o (.store hs rfl rfl an ?_ dy (nS ai sp) (km ai sp _))))))));intro w hs;refine .nil (.seq (.af (.z zm (.z znc (.z (zfa gO) (.z (zfa cz) (.y hs (zld aj) (.zn zm (.for (N:=N) (J:=fun k fr w=>fr=[(6,Pt bf)]∧St H1 w (.blk bt (Is (List.replicate s.df.length 0)):: .blk bl (Is (ws.set 0 (-mW ws k))++sp)::σ)) ai ?_ ?_ ?_)))))))))
  ·exact .mk ⟨rfl,by simpa [mW,a8] using hs⟩
  ·rintro k fr w hk ⟨rfl,hs⟩;have e:=Kr (w:=ws) (N:=N) (k:=k) ai;have B3:=wE ws (k+1);have y8:bT ws (k+1+1)≤bT ws s.n:=su (fun v=>by omega) ai;simp only [FF] at wm;refine .block (.af (.z zm (.zn zg (.draw mix rfl hs fun w hs=>?_))));refine .zw 0 rfl zm ?_;refine .z 1 rfl znc ?_;refine .z 2 rfl (zfa eO) ?_;refine .y 3 rfl hs aq ?_;refine .zw 4 rfl (eS (k:=0) rfl rfl ae an rfl ai) (.load (i:=5) hs rfl aA .none rfl aj ?_ (hv:=gQ (by rw [List.length_set];omega) sp));refine .zw 6 rfl zm ?_;refine .z 7 rfl znc ?_;refine .z 8 rfl (zfa eO) ?_;refine .y 9 rfl hs aq ?_;refine .z 10 rfl zm ?_;refine .z 11 rfl cH ?_;refine .zw 12 rfl (eS (k:=k+1) rfl rfl ae an ai ai) (.load (i:=13) hs rfl aA .none rfl aj ?_ (hv:=gQ (by rw [List.length_set];omega) sp));refine .zw 14 rfl gx (.zw 15 rfl (eS (k:=0) rfl rfl ae an rfl ai) (.E 16 hs ?_));refine .store hs rfl rfl an ?_ dy (nS (by rw [List.length_set];omega) sp) (km (by rw [List.length_set];omega) sp _);intro w hs;refine .go (.D hs (nB (nT ?_)));rw [e,List.set_set] at hs;exact .mk ⟨rfl,hs⟩
  ·rintro fr w ⟨rfl,hs⟩;have B5:BC s.n s.dG (qC ws s.n) (List.replicate s.df.length 0) (ws.set 0 (-mW ws N)):=by
    rw [←B4,hn];rw [hn] at wm;refine BC.start wm (by rw [List.length_set];omega) (fun v hv=>?_) KE;rw [fo ai]
    cases v with
    |zero=>rw [if_pos rfl,Cj]
    |succ v=>rw [if_neg ai,Ck]
   refine nT (.seq (.label (nT (.block ?_))));refine .loop (fun _:cu×List Int×List Int=>⟨73,[],[(6,Pt bf)]⟩)
    (fun p w=>HLe H1 p.1∧BC s.n s.dG (qC ws s.n) p.2.1 p.2.2∧St p.1 w (.blk bt (Is p.2.1):: .blk bl (Is p.2.2++sp)::σ)) (fun p=>(rem s.n p.2.2).toNat) (H1,List.replicate s.df.length 0,ws.set 0 (-mW ws N))
    aH ⟨HLe.refl _,B5,hs⟩ ?_
   rintro ⟨H2,ts,lf⟩ w ⟨bg,hI,hs⟩;dsimp only at bg hI hs ⊢;have fb:=hI.lt;have wq:=hI.ll;have NP:Row H2 bf [I s.many,.slice al s.df.length cpl,.slice (some ⟨bt,0,none⟩) ts.length ts.length,.slice (some ⟨bl,0,none⟩) lf.length cl]:=by
    rw [fb,B4,wq,←Bj];exact XR.mono bg
   have hf32:cellAt H2 bf 3=some (.slice (some ⟨bl,0,none⟩) lf.length cl):=NP.at 3;refine .block (.seq (.af (.z zm (.z znc (.z (zfa eO) (.y hs (zld aq) (.z (de ae) (.zn zm (.for (N:=lf.length) (J:=fun k fr w=>fr=[(53,.slice (some ⟨bl,0,none⟩) lf.length cl),(6,Pt bf)]∧(∀v<k,gi lf v≤0)∧St H2 w (.blk bt (Is ts):: .blk bl (Is lf++sp)::σ)) ai ?_ ?_ ?_)))))))))
   ·exact .mk ⟨rfl,fun v hv=>by omega,hs⟩
   ·rintro k fr w hk ⟨rfl,fO,hs⟩;refine .block (.af (.z zm ?_));first|(refine .ixv hs ae an ?_;intro Yq o58 Bn)|refine .z (zix ae an) ?_
    refine .q hs (eG rfl aj (hv:=gQ hk sp)) (.z zg (.zn zg (.seq (.af (.z zm (.zn oY (.bh rfl (fun tU=>?_) (fun tU=>?_))))))))
    ·refine .exit (xT (xB (nT ?_)));exact .mk ⟨rfl,fun v hv=>by
       by_cases e:v=k
       ·subst e;exact tU
       ·exact fO v ai,hs⟩
    ·refine .skip (nT (.af (.z zm (.z zm ?_))));obtain ⟨Ha,OT,hra,hsa,-,aah⟩:=hs.G6;obtain ⟨Hb,Dw,hrb,hsb,-,F9⟩:=hsa.G6;refine .o (.call call272 rfl (tZ (s:=s) (to:=k) hsb aZ ⟨NP.mono (OT.trans Dw),hr.mono (az.trans (bg.trans (OT.trans Dw))),hra.mono Dw,hrb⟩ ai ai hI.fe ai ai) ?_);rintro v64 w ⟨Hc,p,en,Dv,hO,hsc,aan⟩;have hs:=aah (HLe.refl _) (F9 Dv hsc);obtain ⟨ap,lp,cp,rfl,hlp⟩:=hO.shape;obtain rfl:lp=p.length:=by rw [eJ] at hlp;omega
     refine .zn zg (.seq (.af (.z zm (.z (de aK) (.zn fy (.bh rfl (fun CV=>?_) (fun CV=>?_)))))))
     ·refine .af (.z zg (.zn zg (.ret (rT (rB (rT (rB (rT (rB (rT (rB (rS (Fin.gU results224 rfl rfl ?_)))))))))))))
      rcases aan with ⟨_,R,hS,hR,th⟩|⟨hp,_⟩
      ·exact .inl ⟨rfl,hI.open fL hS hR ai th ai,(hs.le (az.trans bg)).out⟩
      ·exact (hp (List.length_eq_zero_iff.1 ai)).elim
     ·refine .skip (nT (.af (.z zm (.z zm ?_))));obtain ⟨hp,Jn,u,hw⟩:=aan.resolve_left fun h=>by rw [h.1] at CV;exact CV rfl
      obtain ⟨H3,bZ,hRS,hs⟩:=cU.dh (cs:=p.map Arc.v) hO (fun c hc=>by simp only [List.mem_map] at hc;obtain ⟨x,_,rfl⟩:=hc;rfl) ai (by rw [List.length_map];omega) hs dy;refine .o (.call call273 rfl (s7 hs aZ (NP.mono bZ) (hr.mono (az.trans (bg.trans bZ))) hRS hI hw hp Jn) ?_);rintro v70 w hs;refine .nil (.exit (xN (xT (xN (xT (xB (nT ?_)))))));obtain ⟨q1,q2⟩:=hI.send w5 hw ai;have q3:0≤rem s.n (D8 lf (u9 s.dG ts lf p u k) u k):=dx fun v _=>by omega
      exact ⟨(H3,gC s.dG (u9 s.dG ts lf p u k) ts p,D8 lf (u9 s.dG ts lf p u k) u k),aH,⟨bg.trans bZ,q1,hs⟩,by dsimp only;omega⟩
   ·rintro fr w ⟨rfl,fO,hs⟩;refine nT (.af (.z zm (.z zg (.zn zg (.ret (rB (rT (rB (rS (Fin.gU results224 rfl rfl ?_))))))))));obtain ⟨H3,l3,r3,hs⟩:=hs.dh .here;obtain ⟨H4,l4,r4,hs⟩:=hs.dh .here;exact .inr ⟨H4,bf,bt,bl,cl,ts,lf,_,sp,az.trans (bg.trans (l3.trans l4)),rfl,⟨NP.mono (l3.trans l4),hr.mono (az.trans (bg.trans (l3.trans l4))),r3.mono l4,r4⟩,hI.ok fL V1 (fun v hv=>fO v ai),hs⟩
theorem vP{w:World}{v:Value}(hs:St H w σ)(hr:RI H v ws):aaR 271 [v] w fun v w'=>∃b,v= .bool b∧(b=true↔jw ws)∧St H w' σ:=by
 obtain ⟨a,c,rfl⟩:=RI.shape hr;have hl:=(RI.len hr).2.2;refine Cl.o func271 ntmps271 ag1 ?_;refine .af (.zn zg (.af (.zn zg (.seq (.af (.z zm (.z (de ae) (.zn zm (.for (N:=ws.length) (J:=fun k fr w=>fr=[(6,.slice a ws.length c),(3,I (3600000000000 - bT ws k))]∧bT ws k≤3600000000000∧St H w σ) ai ?_ ?_ ?_)))))))))
 ·exact .mk ⟨rfl,by simp [bT,a8],hs⟩
 ·rintro k fr w hk ⟨rfl,hle,hs⟩;have hx:=bu hk;have h0:0≤bT ws k:=dx fun v _=>by omega
  have h1:bT ws (k+1)=bT ws k+max (gi ws k) (-gi ws k):=rfl;refine .block (.af ?_);first|(refine .ixv hs ae an ?_;intro ny o10 pM)|refine .z (zix ae an) ?_
  refine .y hs (zld aj) (.zn zg (.seq (.af (.z zm (.z zm (.z Fm (.z fN (.z zm (.iz (t':=16) rfl (fun rP=>?_) (fun rP=>?_))))))))))
  ·exact .Fs 3 4 false (.zn zpT (.cT (.af (.zn zg (.ret (rT (rB (rT (rB (rT (Fin.bj results271 rfl ⟨false,rfl,⟨fun h=>(by cases h),fun h=>(pb (k:=k+1) hk (by simp only [FF];omega) h).elim⟩,hs⟩)))))))))))
  ·refine .T (.z zm (.T (.z zm (.T (.z kU (.zn zpF (.bh rfl (fun qR=>?_) (fun qR=>?_))))))))
   ·exact .af (.zn zg (.ret (rT (rB (rT (rB (rT (Fin.bj results271 rfl ⟨false,rfl,⟨fun h=>(by cases h),fun h=>(pb (k:=k+1) hk (by simp only [FF];omega) h).elim⟩,hs⟩))))))))
   ·exact .skip (nT (.region (.z zm (.z zm (.z zm (.z Fm (.z DK (.z gx (.zn zg (nB (nT (.mk ⟨rfl,ai,hs⟩ (hs:= .cons rfl (.cons rfl (.cons rfl (.cD rfl ai (.nil rfl rfl)))))))))))))))))
 ·rintro fr w ⟨rfl,hle,hs⟩;exact nT (.af (.zn zg (.ret (Fin.bj results271 rfl ⟨true,rfl,⟨fun _=>hle,fun _=>rfl⟩,hs⟩))))
theorem qd{w:World}{v:Value}{s:dv}(hs:St H w σ)(hr:RSy H v s)(ti:RI H vw ws):aaR 222 [v,vw] w fun v w'=>v=I (fj s ws)∧St H w' σ:=by
 obtain ⟨vl,rfl,hr⟩:=hr;obtain ⟨al,cpl,rfl⟩:=RL.shape hr;obtain ⟨aw,cw,rfl⟩:=RI.shape ti;have hlw:=(RI.len ti).2.2;have hn:s.check=0→0≤s.many∧s.many≤64∧(s.n:Int)=s.many+1:=fun h=>by
  have h1:=s.dX.1 h;have:=h1.m0;have:=h1.m1;simp only [dv.n];omega
 refine Cl.o func222 ntmps222 ag2 ?_;refine .af (.bx hs fun b2 w hs=>?_);refine .zn zg (.seq (.af (.y hs (zls [_,_] cn aV) (.o (.call call197 rfl (ku (s:=s) hs ⟨_,rfl,hr⟩) ?_)))));rintro _ w ⟨rfl,hs⟩;refine .zn zg (.af (.z zm (.zn fV (.dK rfl (fun nv=>?_) (fun nv=>?_)))))
 ·exact .af (.z zm (.zn zg (.ret (rT (Fin.bj results222 rfl ⟨by unfold fj;rw [if_pos nv],hs.tail⟩)))))
 ·refine .skip (nT (.seq (.af (.z zm ?_))));obtain ⟨n0,n1,n2⟩:=hn nv;refine .z (de ae) (.z (zfa cz) (.y hs (zld aj) (.z cH (.z fV (.z zm (.EX (t':=17) rfl (fun yF=>?_) (fun yF=>?_)))))))
  ·exact .Fs 3 6 false (.zn zpT (.cT (.af (.zn zg (.ret (rT (Fin.bj results222 rfl ⟨by unfold fj;rw [if_neg ai,if_neg ai],hs.tail⟩)))))))
  ·refine .T (.z zm (.T (.o (.call call271 rfl (vP hs ti) ?_))));rintro _ w ⟨bz,rfl,aaf,hs⟩;refine .T (.z fU (.zn zpF (.cond rfl (fun iC=>?_) (fun iC=>?_))))
   ·exact .af (.zn zg (.ret (rT (Fin.bj results222 rfl ⟨by unfold fj;rw [if_neg ai,if_neg (fun h=>by rw [aaf.2 h.2] at iC;cases iC)],hs.tail⟩))))
   ·exact .skip (nT (.af (.zn zg (.ret (Fin.bj results222 rfl ⟨by unfold fj;rw [if_neg ai,if_pos ⟨ai,aaf.1 (by simpa using iC)⟩],hs.tail⟩)))))
theorem mS{w:World}{v:Value}{s:dv}(hs:St H w σ)(hr:RSy H v s)(ti:RI H vw ws):
  aaR 179 [v,vw] w fun v w'=>∃H1 e pf,HLe H H1∧v= .tuple #[pf,I e]∧Je s ws e∧St H1 w' σ∧(e≠0→pf= .pointer none)∧
   (e=0→∃bf bt bl cl ts lf vl sp,pf=Pt bf∧AQ H1 bf s ts lf vl bt bl cl sp∧sq s.n s.dG (qC ws s.n) ts∧s.Ok∧bT ws s.n≤FF):=by
 obtain ⟨vl,rfl,hr⟩:=hr;refine Cl.o func179 ntmps179 ag2 ?_;refine .af (.bx hs fun b2 w hs=>?_);refine .z zg (.zn zg (.seq (.af (.y hs (zls [_,_] cn aV) (.z zm (.o (.call call222 rfl (qd (s:=s) hs ⟨_,rfl,hr⟩ ti) ?_)))))));rintro _ w ⟨rfl,hs⟩;refine .zn zg (.af (.z zm (.zn fV (.dK rfl (fun gL=>?_) (fun gL=>?_)))))
 ·exact .af (.z zm (.z zg (.zn zg (.ret (rT (Fin.gU results179 rfl rfl ⟨H,_,_,HLe.refl _,rfl,.bad gL,hs.tail,fun _=>rfl,fun h=>(gL h).elim⟩))))))
 ·refine .skip (nT (.seq (.af (.y hs (zls [_,_] cn aV) ?_))));obtain ⟨aZ,Bj,wm⟩:=nW gL;refine .o (.call call223 rfl (lz (s:=s) hs aZ ⟨_,rfl,hr⟩) ?_);rintro _ w ⟨H1,b,az,rfl,hb,hs⟩;refine .zn fU (.cond rfl (fun iW=>?_) (fun iW=>?_))
  ·exact .af (.z zg (.zn zg (.ret (rT (Fin.gU results179 rfl rfl ⟨H1,_,_,az,rfl,.clash gL (fun h=>by rw [hb.2 h] at iW;cases iW),hs.tail,fun _=>rfl,fun h=>by cases h⟩)))))
  ·refine .skip (nT (.af (.y hs (zls [_,_] cn aV) (.z zm ?_))));have KE:s.Sound:=hb.1 (by simpa using iW);refine .o (.call call224 rfl (AE (s:=s) hs aZ ⟨_,rfl,hr.mono az⟩ (ti.mono az) Bj wm KE) ?_);rintro v21 w jt;obtain ⟨pf,bb,H2,bg,rfl,hs,hT,hF⟩:∃pf bb H2,HLe H1 H2∧v21= .tuple #[pf,.bool bb]∧St H2 w (.blk b2 [I s.many,vl]::σ)∧(bb=false→pf= .pointer none∧pW s.dG (qC ws s.n) s.n)∧
     (bb=true→∃bf bt bl cl ts lf vl sp,pf=Pt bf∧AQ H2 bf s ts lf vl bt bl cl sp∧sq s.n s.dG (qC ws s.n) ts):=by
    rcases jt with ⟨rfl,h1,h2⟩|⟨H2,bf,bt,bl,cl,ts,lf,vl,sp,h1,rfl,h2,h3,h4⟩
    ·exact ⟨_,false,H1,HLe.refl _,rfl,h2,fun _=>⟨rfl,h1⟩,fun h=>by cases h⟩
    ·exact ⟨_,true,H2,h1,rfl,h4,fun h=>(by cases h),fun _=>⟨bf,bt,bl,cl,ts,lf,vl,sp,rfl,h2,h3⟩⟩
   refine .z zm (.z zex (.z zex (.z zg (.zn zg (.seq (.af (.z zm (.zn fU (.cond rfl (fun fc=>?_) (fun fc=>?_))))))))))
   ·exact .af (.z zg (.zn zg (.ret (rT (Fin.gU results179 rfl rfl ⟨H2,_,_,az.trans bg,rfl,.opn gL KE (hT (by simpa using fc)).2,hs.tail,fun _=>rfl,fun h=>by cases h⟩)))))
   ·refine .skip (nT (.af (.z zm (.z zg (.zn zg (.ret (Fin.gU results179 rfl rfl ?_)))))));obtain ⟨bf,bt,bl,cl,ts,lf,vl,sp,rfl,h2,h3⟩:=hF (by simpa using fc);have U4:0<s.n:=by simp [dv.n]
    have yz:s.n≤65:=by have:=aZ.m0;have:=aZ.m1;simp only [dv.n];omega
    have SQ:bT ws s.n≤FF:=by unfold jw at wm;rwa [Bj] at wm
    exact ⟨H2,_,_,az.trans bg,rfl,.ok gL KE (h3.value U4 yz aZ.dG SQ).2.1,hs.tail,fun h=>(h rfl).elim,fun _=>⟨bf,bt,bl,cl,ts,lf,vl,sp,rfl,h2,h3,aZ,SQ⟩⟩
theorem mm{w:World}{s:dv}(hs:St H w σ)(aZ:s.Ok)(hF:AQ H bf s ts lf vl bt bl cl sp)(IY:sq s.n s.dG (qC ws s.n) ts)(wm:bT ws s.n≤FF):
  aaR 263 [Pt bf] w fun v w'=>v=I (dot s.dG ts (·.c))∧Dj s.dG (s.wt ws) s.n (dot s.dG ts (·.c))∧dot s.dG ts (·.c)≤BB∧-BB≤dot s.dG ts (·.c)∧St H w' σ:=by
 obtain ⟨aaB,aaA,hFt,hFd⟩:=hF;obtain ⟨al,cpl,rfl⟩:=RL.shape aaA;have FY:=aZ.len;have B4:s.dG.length=s.df.length:=by simp [dv.dG,fE]
 have fb:=IY.lt;have U4:0<s.n:=by simp [dv.n]
 have yz:s.n≤65:=by have:=aZ.m0;have:=aZ.m1;simp only [dv.n];omega
 have hv:=IY.value U4 yz aZ.dG wm;have hd:=LG (es:=s.dG) fb;have hf1:cellAt H bf 1=some (.slice al s.df.length cpl):=aaB.at 1;have hf2:cellAt H bf 2=some (.slice (some ⟨bt,0,none⟩) ts.length ts.length):=aaB.at 2;refine Cl.o func263 ntmps263 ag1 ?_;refine .af (.zn zg (.af (.zn zg (.seq (.af (.z zm (.z znc (.z (zfa gO) (.z (zfa cO) (.y hs (zld gz) (.z (de aO) (.zn zm (.for (N:=s.df.length) (J:=fun k fr w=>fr=[(10,.slice al s.df.length cpl),(3,I (IntKind.i64.wrap (I1 s.dG ts k))),(0,Pt bf)]∧St H w σ) ai ?_ ?_ ?_)))))))))))))
 ·exact .mk ⟨rfl,hs⟩ (hs:= .cons rfl (.cons rfl (.cons rfl (.cD rfl (by simp [I1,a8,sE]) (.cons rfl (.nil rfl rfl))))))
 ·rintro k fr w hk ⟨rfl,hs⟩;obtain ⟨l,hl⟩:=nth hk;have hg:(ga s.dG k).c=l.M:=by simp [ga,dv.dG,nz hl,Lim.arc]
  have FX:=aZ.lim l (List.mem_of_getElem? hl);have RH:k<ts.length:=by omega
  have RB:=IY.nn k ai;have ZT:cellAt H bt k=some (I (gi ts k)):=hFt.at k (fQ RH);have hmul:gi ts k*l.M≤72000000000000000∧-72000000000000000≤gi ts k*l.M:=by
   simp only [FF] at RB;have g1:gi ts k*l.M≤gi ts k*20000:=Int.mul_le_mul_of_nonneg_left FX.2.2.2.1.2 RB.1;have g2:gi ts k*(-20000)≤gi ts k*l.M:=Int.mul_le_mul_of_nonneg_left FX.2.2.2.1.1 RB.1;omega
  refine .block (.af (.z zm (.ixX hs aaA rfl rfl aO bU hl rfl ?_)));intro yM o15 e7;refine .q hs (bQ (vs:=l.c) rfl lG bU e7) (.o (.alloc hs iS rfl fun b5 w hs=>?_));refine .z zg (.o (.aE (vs:=l.c) hs rfl rfl bU fun w hs=>?_));refine .nil (.draw mix rfl hs fun w hs=>?_);refine .zw 0 rfl zm ?_;refine .z 1 rfl zm ?_;refine .z 2 rfl znc ?_;refine .z 3 rfl (zfa jK) ?_;refine .y 4 rfl hs aq ?_;refine .z 5 rfl zm ?_;refine .zw 6 rfl (eS (k:=k) rfl rfl ae an rfl RH) (.r (i:=7) hs rfl aA .none (aC rfl aj ZT) ?_);refine .zw 8 rfl (zfa eZ) ?_;refine .y 9 rfl hs aj ?_;refine .z 10 rfl kV ?_;refine .zw 11 rfl (J9 rfl rfl) (.zw 12 rfl zg ?_);refine .D hs ?_;exact nB (nT (.mk ⟨rfl,hs.tail⟩ (hs:= .cons rfl (.cons rfl (.cons rfl (.cD rfl (by rw [Ak];simp only [I1,a8,hg]) (.cons rfl (.nil rfl rfl))))))))
 ·rintro fr w ⟨rfl,hs⟩;rw [←B4,←hd,nM (by have:=hv.2.2;simp only [BB] at this;omega)];exact nT (.af (.z zm (.zn zg (.ret (Fin.bj results263 rfl ⟨rfl,hv.1,hv.2.2.1,hv.2.2.2,hs⟩)))))
theorem xi{w:World}(hs:St H w σ)(ti:RI H vw ws)(hlw:ws.length≤1000000)(hb:∀k,-9223372036854775807≤gi ws k∧gi ws k≤9223372036854775807):
  aaR 262 [vw] w fun v w'=>∃H1,HLe H H1∧RI H1 v (u6 ws)∧St H1 w' σ:=by
 obtain ⟨aw,cw,rfl⟩:=RI.shape ti;refine Cl.o func262 ntmps262 ag1 ?_;refine .af (.zn zg (.af (.z zm (.z (de ae) (.o (.yu ws.length hs rfl rfl ae kS rfl an dD ai fun b8 w hs=>?_))))));refine .zn zg (.seq (.af (.z zm (.z (de ae) (.zn zm (.for (N:=ws.length) (J:=fun k fr w=>fr=[(9,.slice aw ws.length cw),(3,.slice (some ⟨b8,0,none⟩) ws.length ws.length)]∧∃L,(L.length=ws.length∧∀v<ws.length,gi L v=if v<k then -gi ws v else 0)∧St H w (.blk b8 (Is L)::σ)) ai ?_ ?_ ?_))))))
 ·exact .mk ⟨rfl,_,⟨bH,fun v hv=>by rw [eU _ _ hv,if_neg ai]⟩,hs⟩
 ·rintro k fr w hk ⟨rfl,L,⟨Pj,Ma⟩,hs⟩;have hx:=bu hk;have Ju:=hb k;refine .block (.af (.z zm ?_));first|(refine .ixv hs ae an ?_;intro oh o14 jH)|refine .z (zix ae an) ?_
  refine .y hs (zld aj) (.z zg (.zn zg (.region (.z zm (.z zm (.z zm (.z Fm ?_)))))));first|(refine .ixv hs ae an ?_;intro Gr o20 qR)|refine .z (zix ae an) ?_
  refine .o (.store hs rfl rfl an fun w hs=>?_);refine .nil (nB (nT (.mk ⟨rfl,_,⟨by rw [List.length_set];exact Pj,fun v hv=>?_⟩,hs⟩)));rw [fo ai];by_cases e:v=k
  ·subst e;rw [if_pos rfl,if_pos ai]
  ·rw [if_neg e,Ma v hv];congr 1;apply propext;omega
 ·rintro fr w ⟨rfl,L,⟨Pj,Ma⟩,hs⟩;obtain rfl:L=u6 ws:=B9 (by simp [Pj,u6]) (fun k hk=>by rw [Ma k ai,if_pos ai,HC]);refine nT (.af (.z zm (.zn zg (.ret (Fin.bj results262 rfl ?_)))));obtain ⟨H1,g1,g2,hs⟩:=hs.dh .here;refine ⟨H1,g1,?_,hs⟩;rw [←Pj];exact Row.RI (spare:=[]) (by simpa using g2) _ (Nat.le_refl _) ai
theorem yI{w:World}{v:Value}{s:dv}(hs:St H w σ)(hr:RSy H v s)(ti:RI H vw ws):
  aaR 219 [v,vw] w fun v w'=>∃H1 lo hi e,HLe H H1∧v= .tuple #[I lo,I hi,I e]∧ik s ws lo hi e∧St H1 w' σ:=by
 obtain ⟨vl,rfl,hr⟩:=hr;refine Cl.o func219 ntmps219 ag2 ?_;refine .af (.bx hs fun b2 w hs=>?_);refine .z zg (.z zg (.zn zg (.af (.y hs (zls [_,_] cn aV) (.z zm (.o (.call call179 rfl (mS (s:=s) hs ⟨_,rfl,hr⟩ ti) ?_)))))));rintro _ w ⟨H1,e,pf,az,rfl,hA,hs,iB,heq⟩;refine .z zm (.z zex (.z zex (.z zg (.zn zg (.seq (.af (.z zm (.zn fV (.dK rfl (fun eC=>?_) (fun eC=>?_))))))))))
 ·exact .af (.z zm (.z zg (.z zg (.zn zg (.ret (rT (Fin.OB results219 rfl rfl rfl ⟨H1,_,_,_,az,rfl,.first ⟨hA,fun _=>rfl,fun h=>(eC h).elim⟩ eC,hs.tail⟩)))))))
 ·refine .skip (nT (.seq (.draw mix rfl hs fun w hs=>?_)));refine .ys 0 rfl hs [_,_] cn aV ?_;refine .z 1 rfl zm ?_;refine .E 2 hs ?_;subst eC;obtain ⟨bf,bt,bl,cl,ts,lf,wC,sp,rfl,hF,IY,aZ,wm⟩:=heq rfl;have Bj:=(nW hA.zero.1).2.1;have hbw:∀k,-9223372036854775807≤gi ws k∧gi ws k≤9223372036854775807:=fun k=>by
   simp only [FF] at wm;by_cases hk:k<s.n
   ·have:=jV ws hk;omega
   ·have:gi ws k=0:=by simp [gi,List.getElem?_eq_none (show ws.length≤k by omega)]
    omega
  refine .call call262 rfl (xi hs (ti.mono az) (by have:=aZ.m1;simp only [dv.n] at Bj;omega) hbw) ?_;rintro v21 w ⟨H2,bg,Wu,hs⟩;refine .go (.E 3 hs ?_);refine .call call179 rfl (mS (s:=s) hs ⟨_,rfl,hr.mono (az.trans bg)⟩ Wu) ?_;rintro _ w ⟨H3,e2,pg,bZ,rfl,aaF,hs,hne2,Xc⟩;refine .go (.zw 4 rfl zm ?_);refine .z 5 rfl zex ?_;refine .z 6 rfl zex ?_;refine .z 7 rfl zg ?_;refine .z 8 rfl zg ?_;refine .D hs ?_;refine .seq (.af (.z zm (.zn fV (.dK rfl (fun iV=>?_) (fun iV=>?_)))))
  ·refine .af (.z zm (.z zg (.z zg (.zn zg (.ret (rT (Fin.OB results219 rfl rfl rfl ?_)))))));obtain ⟨q1,q2,q3,q4⟩:=IY.value (by simp [dv.n]) (by have:=aZ.m0;have:=aZ.m1;simp only [dv.n];omega) aZ.dG wm;exact ⟨H3,_,_,_,az.trans (bg.trans bZ),rfl,.second ⟨hA,fun h=>(h rfl).elim,fun _=>⟨q1,q3,q4⟩⟩ ⟨aaF,fun _=>rfl,fun h=>(iV h).elim⟩ iV,hs.tail⟩
  ·refine .skip (nT (.af (.z zm ?_)));subst iV;obtain ⟨bf2,bt2,bl2,cl2,ts2,lf2,vl2,sp2,rfl,hF2,Yi,hok2,Wa⟩:=Xc rfl;refine .o (.call call263 rfl (mm hs aZ hF2 Yi Wa) ?_);rintro _ w ⟨rfl,a1,a2,a3,hs⟩;simp only [BB] at a2 a3;refine .z Fm (.z zm (.o (.call call263 rfl (mm hs aZ (hF.mono (bg.trans bZ)) IY wm) ?_)));rintro _ w ⟨rfl,c1,c2,c3,hs⟩;exact .z zg (.z zg (.zn zg (.ret (Fin.OB results219 rfl rfl rfl ⟨H3,_,_,_,az.trans (bg.trans bZ),rfl,.ok ⟨hA,fun h=>(h rfl).elim,fun _=>⟨c1,c2,c3⟩⟩ ⟨aaF,fun h=>(h rfl).elim,fun _=>⟨a1,by simp only [BB];omega,by simp only [BB];omega⟩⟩,hs.tail⟩))))
theorem sc{w:World}{s:dv}(hs:St H w σ)(aZ:s.Ok)(hF:AQ H bf s ts lf vl bt bl cl sp)(IY:sq s.n s.dG (qC ws s.n) ts)(wm:bT ws s.n≤FF):
  aaR 180 [Pt bf] w fun v w'=>∃H1 xs,HLe H H1∧RI H1 v xs∧E2 s ws xs∧St H1 w' σ:=by
 obtain ⟨N,hN⟩:=Int.eq_ofNat_of_zero_le aZ.m0;have Vh:=aZ.m1;have hn:s.n=N+1:=by simp [dv.n,hN]
 have fb:=IY.lt;have B4:s.dG.length=s.df.length:=by simp [dv.dG,fE]
 have FY:=aZ.len;have ZP:cellAt H bf 0=some (I (N:Int)):=by have:=hF.f.at 0 (v:=I s.many);rwa [hN] at this
 have p9:=Ik aZ.dG fb.symm ai;rw [hn] at p9;refine Cl.o func180 ntmps180 ag1 ?_;refine .af (.zn zg (.seq (.draw mix rfl hs fun w hs=>?_)));refine .zw 0 rfl zm ?_;refine .z 1 rfl znc ?_;refine .z 2 rfl (zfa gO) ?_;refine .z 3 rfl (zfa cz) ?_;refine .y 4 rfl hs aj ?_;refine .z 5 rfl zm ?_;refine .E 6 hs ?_;refine .call call226 rfl (m8 hs aZ hF ai) ?_;rintro _ w ⟨H1,yM,az,rfl,qO,hs⟩;refine .go (.E 7 hs ?_);refine .call call225 rfl (lx hs ai p9 qO call274) ?_;rintro _ w ⟨H2,bc,bb,st,ov,vo,bg,rfl,IG,⟨r,Ya,hr⟩,hs⟩;have WC:ov=none:=by
  cases ov with
  |none=>rfl
  |some x=>exact (Ya.none p9 ai (by have:=hr bH;omega) IY.fe).elim
 subst WC;obtain ⟨OZ,sZ⟩:=Ya.sol p9 ai;have Dv:=Ya.lc;have A3:=sZ 0 ai;refine .go (.zw 8 rfl zm ?_);refine .z 9 rfl zex ?_;refine .z 10 rfl zex ?_;refine .z 11 rfl zex ?_;refine .z 12 rfl zg ?_;refine .z 13 rfl zg ?_;refine .z 14 rfl zg ?_;refine .D hs ?_;refine .af (.z zm (.q hs (eS (k:=0) rfl rfl ae an rfl ai) (.y hs (zld aj) (.zn zg (.seq (.af (.z zm (.z (de ae) (.zn zm (.for (N:=N+1) (J:=fun k fr w=>fr=[(3,.slice (some ⟨bc,0,none⟩) (N+1) (N+1)),(6,I (gi st.cost 0))]∧∃L,(L.length=N+1∧∀v<N+1,gi L v=if v<k then gi st.cost v - gi st.cost 0 else gi st.cost v)∧St H2 w (.blk bc (Is L)::σ)) ai ?_ ?_ ?_))))))))))
 ·exact .mk ⟨rfl,st.cost,⟨Dv,fun v hv=>by rw [if_neg ai]⟩,hs.sb⟩
 ·rintro k fr w hk ⟨rfl,L,⟨Pj,Ma⟩,hs⟩;have aax:=Ma k hk;rw [if_neg ai] at aax;have Ju:=sZ k hk;refine .block (.af (.z zm (.zn zg (.region (.z zm (.z zm ?_))))));first|(refine .ixv hs ae an ?_;intro Rh o30 nm)|refine .z (zix ae an) ?_
  refine .y hs (zld aj) (.z zm (.z gx ?_));first|(refine .ixv hs ae an ?_;intro Pz o34 jx)|refine .z (zix ae an) ?_
  refine .o (.store hs rfl rfl an fun w hs=>?_);refine .nil (nB (nT (.mk ⟨rfl,_,⟨by rw [List.length_set];exact Pj,fun v hv=>?_⟩,hs⟩)));rw [fo ai];by_cases e:v=k
  ·subst e;rw [if_pos rfl,if_pos ai,aax]
  ·rw [if_neg e,Ma v hv];congr 1;apply propext;omega
 ·rintro fr w ⟨rfl,L,⟨Pj,Ma⟩,hs⟩;refine nT (.af (.z zm (.zn zg (.ret (Fin.bj results180 rfl ?_)))));obtain ⟨H3,g1,g2,hs⟩:=hs.dh .here;have hg:∀v<N+1,gi L v=gi st.cost v - gi st.cost 0:=fun v hv=>by rw [Ma v hv,if_pos hv]
  obtain ⟨p1,p2⟩:=IY.VL ai aZ.dG OZ;refine ⟨H3,L,az.trans (bg.trans g1),?_,⟨ai,by rw [hg 0 ai];omega,fun v hv=>?_,fun x hx=>?_,?_⟩,hs⟩
  ·have:=Row.RI (spare:=[]) (by simpa using g2) (N+1) ai ai
   rwa [Pj] at this
  ·have:=sZ v ai;rw [hg v ai];omega
  ·have h1:=aZ.dG.2 x hx;have h2:=p2 x hx;rw [hg _ ai,hg _ ai];omega
  ·have h1:=IY.value ai ai aZ.dG wm;rw [←p1] at h1;have e:a8 (fun v=>gi ws v*gi L v) s.n=a8 (fun v=>gi ws v*(gi st.cost v - gi st.cost 0)) s.n:=bP fun v hv=>by rw [hg v ai]
   rw [e];exact h1.1
theorem AH{w:World}{v:Value}{s:dv}(hs:St H w σ)(hr:RSy H v s)(ti:RI H vw ws):
  aaR 126 [v,vw] w fun v w'=>∃H1 vx xs e,HLe H H1∧v= .tuple #[vx,I e]∧Je s ws e∧RI H1 vx xs∧(e≠0→xs=[])∧(e=0→E2 s ws xs)∧St H1 w' σ:=by
 obtain ⟨vl,rfl,hr⟩:=hr;refine Cl.o func126 ntmps126 ag2 ?_;refine .af (.bx hs fun b2 w hs=>?_);refine .z zg (.zn zg (.af (.y hs (zls [_,_] cn aV) (.z zm (.o (.call call179 rfl (mS (s:=s) hs ⟨_,rfl,hr⟩ ti) ?_))))));rintro _ w ⟨H1,e,pf,az,rfl,hA,hs,iB,heq⟩;refine .z zm (.z zex (.z zex (.z zg (.zn zg (.seq (.af (.z zm (.zn fV (.dK rfl (fun e7=>?_) (fun e7=>?_))))))))))
 ·exact .af (.z zm (.z zg (.zn zg (.ret (rT (Fin.gU results126 rfl rfl ⟨H1,_,[],_,az,rfl,hA,RS.nil H1 1 none 0,fun _=>rfl,fun h=>(e7 h).elim,hs.tail⟩))))))
 ·refine .skip (nT (.af (.z zm ?_)));subst e7;obtain ⟨bf,bt,bl,cl,ts,lf,vl,sp,rfl,hF,IY,aZ,wm⟩:=heq rfl;refine .o (.call call180 rfl (sc hs aZ hF IY wm) ?_);rintro v18 w ⟨H2,xs,bg,hx,hB,hs⟩;exact .z zg (.zn zg (.ret (Fin.gU results126 rfl rfl ⟨H2,_,xs,_,az.trans bg,rfl,hA,hx,fun h=>(h rfl).elim,fun _=>hB,hs.tail⟩)))
theorem MG{n m:Int}(hm:0<m):(n.tmod m+m).tmod m=n%m:=by
 have h2:=Int.lt_tmod_of_pos n hm;rw [Int.tmod_eq_emod_of_nonneg ai,Int.tmod_def,show n - m*n.tdiv m+m=n+m*(1 - n.tdiv m) by rw [Int.mul_sub];omega,Int.add_mul_emod_self_left]
theorem zV{w:World}{v:Value}{l:List Int}{i n:Int}(hs:St H w σ)(hr:RI H v l)(hi:0≤i)(hn:n≤4611686018427387904):aaR 209 [v,I i,I n] w fun v w'=>v=I (uQ l i n)∧St H w' σ:=by
 obtain ⟨a,c,rfl⟩:=RI.shape hr;have hlen:=(RI.len hr).2.2;refine Cl.o func209 ntmps209 ag3 ?_;refine .af (.zn zg (.seq (.af (.z zm (.z (de ae) (.z fy (.z zm (.iz (t':=10) rfl (fun pP=>?_) (fun pP=>?_)))))))))
 ·exact .Fs 2 3 false (.zn zpT (.cT (.af (.zn zg (.ret (rT (Fin.bj results209 rfl ⟨by rw [show uQ l i n=0 by unfold uQ;rw [if_pos (.inl (List.length_eq_zero_iff.1 ai))]],hs⟩)))))))
 ·refine .T (.z zm (.T (.z fN (.zn zpF (.bh rfl (fun gL=>?_) (fun gL=>?_))))))
  ·exact .af (.zn zg (.ret (rT (Fin.bj results209 rfl ⟨by rw [show uQ l i n=0 by unfold uQ;rw [if_pos (.inr ai)]],hs⟩))))
  ·refine .skip (nT (.af (.z zm (.z zm (.z zm (.z (de ae) ?_))))));have L6:0<l.length:=by omega
   have h1:=Int.tmod_nonneg (a:=i) (l.length:Int) hi;have h2:=Int.tmod_lt_of_pos i (b:=(l.length:Int)) ai;have hx:=bu (l:=l) (i:=(i.tmod (l.length:Int)).toNat) ai;have h3:=Int.tmod_lt_of_pos (gi l (i.tmod (l.length:Int)).toNat) (b:=n) ai;have h4:=Int.lt_tmod_of_pos (gi l (i.tmod (l.length:Int)).toNat) (b:=n) ai;have e:=MG (n:=gi l (i.tmod (l.length:Int)).toNat) (m:=n) ai;refine .z E9 (.ixY hs hr rfl rfl ae an hx ai ?_);intro pU o19 mL;exact .q hs (aC rfl aj mL) (.z zm (.z E9 (.z zm (.z cH (.z zm (.z E9 (.zn zg (.ret (Fin.bj results209 rfl ⟨by unfold uQ;rw [if_neg (fun h=>h.elim (fun h=>by rw [h] at L6;exact Nat.lt_irrefl _ L6) (fun h=>by omega)),←e],hs⟩)))))))))
def Cn(i j:Nat):Int:=if i=j then 0 else free
theorem PJ{n:Nat}(es:List Arc){T:Nat→Nat→Int}(h:∀i j,i<n→j<n→T i j=Cn i j):Rm n es 0 T:=
 ⟨fun i hi=>by rw [h i i hi hi];simp [Cn],fun _ _ h=>by omega,fun i j hi hj Js=> .inl (by rw [h i j hi hj];simp [Cn,Js])⟩
set_option maxHeartbeats 4000000 in
theorem rC{w:World}{v:Value}{s:dv}(hs:St H w σ)(hr:RSy H v s)(aZ:s.Ok):
  aaR 207 [v] w fun u w'=>∃H1 rs,HLe H H1∧RT H1 u rs∧Sq s.n rs∧kF s.n s.dG (gt rs)∧St H1 w' σ:=by
 obtain ⟨ul,rfl,hl⟩:=hr;obtain ⟨al,cl,rfl⟩:=RL.shape hl;have Fh:=aZ.m0;have Jo:=aZ.m1;have hlen:=aZ.len;have U3:=s.Iv;have Bk:=aZ.n65;have Er:=aZ.inn;have U6:s.many+1=(s.n:Int):=by simp only [dv.n];omega
 generalize hn:s.n=n at U3 Bk Er U6 ⊢;refine Cl.o func207 ntmps207 ag1 ?_;refine .af (.bx hs fun b1 w hs=>?_);refine .zn zg (.af (.z (zfa cz) ?_));first|refine .q hs (eG rfl aj (hm:=by repeat (first|exact .here|assumption|exact Mem.row ai ai|refine .there ?_|refine Mem.lJ ?_)) (hv:=by first|rfl|exact dF ai|exact im di ai ai|exact fQ gy)) ?_|refine .q hs (aC rfl aj di) ?_
 refine .z cH ?_;rw [U6];refine .zn zg (.af (.z zm (.o (.P6 n hs rfl rfl au typeInfo34 rfl aI gS ai fun nx w hs=>?_))));refine .zn zg (.seq (.af (.z zm (.z (de au) (.zn zm (.for (N:=n) (J:=fun k fr w=>fr=[(3,I (n:Int)),(4,.slice (some ⟨nx,0,none⟩) n n),(1,Pt b1)]∧∃bs:List Nat,bs.length=k∧St H w (.blk nx (bs.map (ptr n)++List.replicate (n - k) (.slice none 0 0))::(kY bs (Fu Cn n k)++(.blk b1 [I s.many,.slice al s.df.length cl]::σ)))) ai ?_ ?_ ?_))))))
 ·exact .mk ⟨rfl,[],rfl,hs⟩
 ·rintro k fr w hk ⟨rfl,bs,Bp,hs⟩;refine .block (.af (.z zm (.zn zg (.af (.z zm (.z zm (.z zm (.o (.yu n hs rfl rfl ae kS rfl an dD ai fun Dy w hs=>?_)))))))));first|(refine .ixw hs au aI ?_;intro Ur o26 iV)|refine .z (zix au aI) ?_
  refine .o (.store hs rfl rfl aI ?_ dy (by simp [Bp];omega) (Ka Bp hk));intro w hs;refine .nil (.af (.z zm (.z zm ?_)));first|(refine .ixw hs au aI ?_;intro aaN o29 nO)|refine .z (zix au aI) ?_
  refine .q hs (eG rfl aq (hv:=GY Bp)) (.z (de ae) (.zn zm (.for (N:=n) (J:=fun j fr w=>fr=[(5,I (k:Int)),(19,I (k:Int)),(18,I (n:Int)),(3,I (n:Int)),(4,.slice (some ⟨nx,0,none⟩) n n),(1,Pt b1)]∧St H w (.blk Dy (Is ((List.range n).map fun c=>if c<j∧k≠c then free else 0)):: .blk nx ((bs++[Dy]).map (ptr n)++List.replicate (n - (k+1)) (.slice none 0 0))::(kY bs (Fu Cn n k)++(.blk b1 [I s.many,.slice al s.df.length cl]::σ)))) ai ?_ ?_ ?_)))
  ·rw [zX (fun c=>if c<0∧k≠c then free else 0) n 0 (fun j _=>by simp)] at hs;exact .mk ⟨rfl,hs⟩
  ·rintro j fr w hj ⟨rfl,hs⟩;refine .block (.af (.z zm (.zn zg (.af (.z zm (.z zm (.zn fV (.dK rfl (fun qb=>?_) (fun qb=>?_)))))))))
   ·refine .region (.z zm (.z zm ?_));first|(refine .ixw hs au aI ?_;intro Up o40 nN)|refine .z (zix au aI) ?_
    refine .q hs (eG rfl aq (hv:=GY Bp)) (.z zm ?_);first|(refine .ixv hs ae an ?_;intro Uo o43 yC)|refine .z (zix ae an) ?_
    refine .o (.store hs rfl rfl an ?_ dy (AI (by simp;omega)) (wc _ _ _));intro w hs;refine .nil (nB (nT ?_));rw [JZ _ (fun c=>if c<j+1∧k≠c then free else 0) hj 1000000000 (fun c _=>by
     by_cases e:c=j
     ·subst e;rw [if_pos rfl,if_pos ⟨ai,ai⟩]
     ·rw [if_neg e];congr 1;apply propext;omega)] at hs
    exact .mk ⟨rfl,hs⟩
   ·refine .skip (nB (nT ?_));rw [zY (g:=fun c=>if c<j+1∧k≠c then free else 0) (fun c _=>by
     by_cases e:c=j
     ·subst e;rw [if_neg ai,if_neg ai]
     ·congr 1;apply propext;omega)] at hs
    exact .mk ⟨rfl,hs⟩
  ·rintro fr w ⟨rfl,hs⟩;rw [zY (g:=Cn k) (fun c hc=>by
    unfold Cn;by_cases e:k=c
    ·rw [if_neg ai,if_pos e]
    ·rw [if_pos ⟨hc,e⟩,if_neg e])] at hs
   replace hs:=hs.Sf (by rw [Bp,zA]);rw [←DP] at hs;exact nB (nT (.mk ⟨rfl,bs++[Dy],by simp [Bp],hs⟩))
 ·rintro fr w ⟨rfl,bs,Bp,hs⟩;rw [Nat.sub_self,List.replicate_zero,List.append_nil] at hs;refine nT (.seq (.af (.z (zfa cO) ?_)));first|refine .q hs (eG rfl gz (hm:=by repeat (first|exact .here|assumption|exact Mem.row ai ai|refine .there ?_|refine Mem.lJ ?_)) (hv:=by first|rfl|exact dF ai|exact im di ai ai|exact fQ gy)) ?_|refine .q hs (aC rfl gz di) ?_
  refine .z (de aO) (.zn zm (.for (N:=s.df.length) (J:=fun k fr w=>fr=[(47,.slice al s.df.length cl),(4,.slice (some ⟨nx,0,none⟩) n n)]∧∃rs,Sq n rs∧Rm n s.dG k (gt rs)∧St H w (.blk nx (bs.map (ptr n))::(kY bs rs++(.blk b1 [I s.many,.slice al s.df.length cl]::σ)))) ai ?_ ?_ ?_))
  ·exact .mk ⟨rfl,_,JI Cn n,PJ s.dG (fun i j hi hj=>Ft Cn hi hj),hs⟩
  ·rintro k fr w hk ⟨rfl,rs,hq,hB,hs⟩;obtain ⟨x,hx⟩:=nth (l:=s.df) hk;have BY:=hq.1;obtain ⟨⟨xa0,xa1⟩,⟨xb0,xb1⟩,xne,xM,-⟩:=aZ.lim x (List.mem_of_getElem? hx);have ha:x.A.toNat<n:=by omega
   have hb:x.B.toNat<n:=by omega
   have hga:=nz hx;refine .block (.af (.ixX (enc:=Lim.c) hs hl rfl rfl aO bU hx rfl ?_));intro b51 o51 Ev;refine .q hs (bQ (vs:=x.c) rfl lG bU Ev) (.o (.alloc hs iS rfl fun b8 w hs=>?_));refine .o (.aE (vs:=x.c) hs rfl rfl bU fun w hs=>?_);refine .nil (.draw mix rfl hs fun w hs=>?_);refine .zw 0 rfl zm ?_;refine .z 1 rfl (zfa dS) ?_;first|refine .load (i:=2) hs rfl aA .none rfl aj ?_ (by repeat (first|exact .here|assumption|exact Mem.row ai ai|refine .there ?_|refine Mem.lJ ?_)) (by first|rfl|exact dF ai|exact im di ai ai|exact fQ gy)|refine .r (i:=2) hs rfl aA .none (aC rfl aj di) ?_
   refine .zw 3 rfl (eS (k:=x.A.toNat) rfl rfl au aI ai ha) ?_;first|refine .load (i:=4) hs rfl aA .none rfl aq ?_ (by repeat (first|exact .here|assumption|exact Mem.row ai ai|refine .there ?_|refine Mem.lJ ?_)) (by first|rfl|exact dF ai|exact im di ai ai|exact fQ gy)|refine .r (i:=4) hs rfl aA .none (aC rfl aq di) ?_
   refine .zw 5 rfl (zfa ed) ?_;first|refine .load (i:=6) hs rfl aA .none rfl aj ?_ (by repeat (first|exact .here|assumption|exact Mem.row ai ai|refine .there ?_|refine Mem.lJ ?_)) (by first|rfl|exact dF ai|exact im di ai ai|exact fQ gy)|refine .r (i:=6) hs rfl aA .none (aC rfl aj di) ?_
   refine .zw 7 rfl zm ?_;refine .z 8 rfl (zfa dS) ?_;first|refine .load (i:=9) hs rfl aA .none rfl aj ?_ (by repeat (first|exact .here|assumption|exact Mem.row ai ai|refine .there ?_|refine Mem.lJ ?_)) (by first|rfl|exact dF ai|exact im di ai ai|exact fQ gy)|refine .r (i:=9) hs rfl aA .none (aC rfl aj di) ?_
   refine .zw 10 rfl (eS (k:=x.A.toNat) rfl rfl au aI ai ha) ?_;first|refine .load (i:=11) hs rfl aA .none rfl aq ?_ (by repeat (first|exact .here|assumption|exact Mem.row ai ai|refine .there ?_|refine Mem.lJ ?_)) (by first|rfl|exact dF ai|exact im di ai ai|exact fQ gy)|refine .r (i:=11) hs rfl aA .none (aC rfl aq di) ?_
   refine .zw 12 rfl (zfa ed) ?_;first|refine .load (i:=13) hs rfl aA .none rfl aj ?_ (by repeat (first|exact .here|assumption|exact Mem.row ai ai|refine .there ?_|refine Mem.lJ ?_)) (by first|rfl|exact dF ai|exact im di ai ai|exact fQ gy)|refine .r (i:=13) hs rfl aA .none (aC rfl aj di) ?_
   refine .zw 14 rfl (eS (k:=x.B.toNat) rfl rfl ae an ai hb) ?_;first|refine .load (i:=15) hs rfl aA .none rfl aj ?_ (by repeat (first|exact .here|assumption|exact Mem.row ai ai|refine .there ?_|refine Mem.lJ ?_)) (by first|rfl|exact dF ai|exact im di ai ai|exact fQ gy)|refine .r (i:=15) hs rfl aA .none (aC rfl aj di) ?_
   refine .zw 16 rfl (zfa eZ) ?_;first|refine .load (i:=17) hs rfl aA .none rfl aj ?_ (by repeat (first|exact .here|assumption|exact Mem.row ai ai|refine .there ?_|refine Mem.lJ ?_)) (by first|rfl|exact dF ai|exact im di ai ai|exact fQ gy)|refine .r (i:=17) hs rfl aA .none (aC rfl aj di) ?_
   refine .zw 18 rfl Dq (.zw 19 rfl (eS (k:=x.B.toNat) rfl rfl ae an ai hb) (.ET 20 hs ?_));refine .store hs rfl rfl an ?_ (.there (.there (Upd.row _ ai ai))) (AI (by rw [hq.2 _ ha];exact hb)) (wc _ _ _);intro w hs;exact .go (.DT hs (nB (nT (.mk ⟨rfl,_,hq.set ha _,by rw [Hp hq ha hb];exact hB.step Er hga,hs.tail⟩))))
  ·rintro fr w ⟨rfl,rs,hq,hB,hs⟩;rw [←fE] at hB;have hI:=hB.go Er U3;have F2:∀x∈s.dG,-20000≤x.c∧x.c≤20000:=fun x hx=>by have:=Er x hx;omega
   refine nT (.seq (.af (.z zm (.z (de au) (.zn zm (.for (N:=n) (J:=fun m fr w=>fr=[(4,.slice (some ⟨nx,0,none⟩) n n)]∧∃rs,Sq n rs∧(m<n→Dz n s.dG m (fun _ _=>False) (gt rs))∧(m=n→kF n s.dG (gt rs))∧St H w (.blk nx (bs.map (ptr n))::(kY bs rs++(.blk b1 [I s.many,.slice al s.df.length cl]::σ)))) ai ?_ ?_ ?_))))))
   ·exact .mk ⟨rfl,rs,hq,fun _=>hI,fun e=>by omega,hs⟩
   ·clear hI hB hq;rintro m fr w hm ⟨rfl,rs,hq,hI,-,hs⟩;replace hI:=hI hm;refine .block (.af (.z zm (.zn zg (.af (.z zm (.z (de au) (.zn zm (.for (N:=n) (J:=fun i fr w=>fr=[(9,I (m:Int)),(76,I (m:Int)),(75,I (n:Int)),(4,.slice (some ⟨nx,0,none⟩) n n)]∧∃rs,Sq n rs∧Dz n s.dG m (fun a _=>a<i) (gt rs)∧St H w (.blk nx (bs.map (ptr n))::(kY bs rs++(.blk b1 [I s.many,.slice al s.df.length cl]::σ)))) ai ?_ ?_ ?_))))))))
    ·exact .mk ⟨rfl,rs,hq,hI.skip F2 hm (P:=fun _ _=>False) (fun i j h=>by omega) (fun _ _ _ _ h=>h.elim),hs⟩
    ·clear hI hq;rintro i fr w hi ⟨rfl,rs,hq,hI,hs⟩;refine .block (.af (.z zm (.zn zg (.af (.z zm (.z (de au) (.zn zm (.for (N:=n) (J:=fun k fr w=>fr=[(10,I (i:Int)),(81,I (i:Int)),(80,I (n:Int)),(9,I (m:Int)),(76,I (m:Int)),(75,I (n:Int)),(4,.slice (some ⟨nx,0,none⟩) n n)]∧∃rs,Sq n rs∧Dz n s.dG m (fun a b=>a<i∨(a=i∧b<k)) (gt rs)∧St H w (.blk nx (bs.map (ptr n))::(kY bs rs++(.blk b1 [I s.many,.slice al s.df.length cl]::σ)))) ai ?_ ?_ ?_))))))))
     ·exact .mk ⟨rfl,rs,hq,hI.skip F2 hm (P:=fun _ _=>False) (fun a b h=>by omega) (fun _ _ _ _ h=>h.elim),hs⟩
     ·clear hI hq;rintro k fr w hk ⟨rfl,rs,hq,hI,hs⟩;have BY:=hq.1;have c1:=hI.cl i m hi hm;have c2:=hI.cl m k hm hk;have u1:=hI.up i m hi hm;have u2:=hI.up m k hm hk;refine .block (.af (.z zm (.zn zg (.af (.z zm (.z zm ?_))))));first|(refine .ixw hs au aI ?_;intro aaH o91 Qu)|refine .z (zix au aI) ?_
      first|refine .q hs (eG rfl aq (hm:=by repeat (first|exact .here|assumption|exact Mem.row ai ai|refine .there ?_|refine Mem.lJ ?_)) (hv:=by first|rfl|exact dF ai|exact im di ai ai|exact fQ gy)) ?_|refine .q hs (aC rfl aq di) ?_
      refine .z zm ?_;first|(refine .ixv hs ae an ?_;intro b94 o94 hc94)|refine .z (zix ae an) ?_
      first|refine .q hs (eG rfl aj (hm:=by repeat (first|exact .here|assumption|exact Mem.row ai ai|refine .there ?_|refine Mem.lJ ?_)) (hv:=by first|rfl|exact dF ai|exact im di ai ai|exact fQ gy)) ?_|refine .q hs (aC rfl aj di) ?_
      refine .z fV (.z zm (.EX (t':=97) rfl (fun IQ=>?_) (fun IQ=>?_)))
      ·refine .T (.z zm (.T (.z zm (.T ?_))));first|(refine .ixw hs au aI ?_;intro Ri o100 nP)|refine .z (zix au aI) ?_
       refine .T ?_;first|refine .q hs (eG rfl aq (hm:=by repeat (first|exact .here|assumption|exact Mem.row ai ai|refine .there ?_|refine Mem.lJ ?_)) (hv:=by first|rfl|exact dF ai|exact im di ai ai|exact fQ gy)) ?_|refine .q hs (aC rfl aq di) ?_
       refine .T (.z zm (.T ?_));first|(refine .ixv hs ae an ?_;intro YO o103 EB)|refine .z (zix ae an) ?_
       refine .T ?_;first|refine .q hs (eG rfl aj (hm:=by repeat (first|exact .here|assumption|exact Mem.row ai ai|refine .there ?_|refine Mem.lJ ?_)) (hv:=by first|rfl|exact dF ai|exact im di ai ai|exact fQ gy)) ?_|refine .q hs (aC rfl aj di) ?_
       refine .T (.z fV (.zn zpT (.dK rfl (fun tk=>?_) (fun tk=>?_))))
       ·refine .draw mix rfl hs fun w hs=>?_
        replace u1:=u1 IQ;replace u2:=u2 tk;refine .zw 0 rfl zm ?_;refine .z 1 rfl zm ?_;first|(refine .ixw 2 rfl hs au aI ?_;intro YM o109 EA)|refine .z 2 rfl (zix au aI) ?_
        first|refine .load (i:=3) hs rfl aA .none rfl aq ?_ (by repeat (first|exact .here|assumption|exact Mem.row ai ai|refine .there ?_|refine Mem.lJ ?_)) (by first|rfl|exact dF ai|exact im di ai ai|exact fQ gy)|refine .r (i:=3) hs rfl aA .none (aC rfl aq di) ?_
        refine .zw 4 rfl zm ?_;refine .z 5 rfl zm ?_;refine .z 6 rfl zm ?_;first|(refine .ixw 7 rfl hs au aI ?_;intro YJ o114 Lb)|refine .z 7 rfl (zix au aI) ?_
        first|refine .load (i:=8) hs rfl aA .none rfl aq ?_ (by repeat (first|exact .here|assumption|exact Mem.row ai ai|refine .there ?_|refine Mem.lJ ?_)) (by first|rfl|exact dF ai|exact im di ai ai|exact fQ gy)|refine .r (i:=8) hs rfl aA .none (aC rfl aq di) ?_
        refine .zw 9 rfl zm ?_;first|(refine .ixv 10 rfl hs ae an ?_;intro b117 o117 Hm)|refine .z 10 rfl (zix ae an) ?_
        first|refine .load (i:=11) hs rfl aA .none rfl aj ?_ (by repeat (first|exact .here|assumption|exact Mem.row ai ai|refine .there ?_|refine Mem.lJ ?_)) (by first|rfl|exact dF ai|exact im di ai ai|exact fQ gy)|refine .r (i:=11) hs rfl aA .none (aC rfl aj di) ?_
        refine .zw 12 rfl zm ?_;refine .z 13 rfl zm ?_;first|(refine .ixw 14 rfl hs au aI ?_;intro b121 o121 aac)|refine .z 14 rfl (zix au aI) ?_
        first|refine .load (i:=15) hs rfl aA .none rfl aq ?_ (by repeat (first|exact .here|assumption|exact Mem.row ai ai|refine .there ?_|refine Mem.lJ ?_)) (by first|rfl|exact dF ai|exact im di ai ai|exact fQ gy)|refine .r (i:=15) hs rfl aA .none (aC rfl aq di) ?_
        refine .zw 16 rfl zm ?_;first|(refine .ixv 17 rfl hs ae an ?_;intro Ut o124 La)|refine .z 17 rfl (zix ae an) ?_
        first|refine .load (i:=18) hs rfl aA .none rfl aj ?_ (by repeat (first|exact .here|assumption|exact Mem.row ai ai|refine .there ?_|refine Mem.lJ ?_)) (by first|rfl|exact dF ai|exact im di ai ai|exact fQ gy)|refine .r (i:=18) hs rfl aA .none (aC rfl aj di) ?_
        refine .zw 19 rfl zm ?_;refine .z 20 rfl zm ?_;first|(refine .ixw 21 rfl hs au aI ?_;intro YE o128 TB)|refine .z 21 rfl (zix au aI) ?_
        first|refine .load (i:=22) hs rfl aA .none rfl aq ?_ (by repeat (first|exact .here|assumption|exact Mem.row ai ai|refine .there ?_|refine Mem.lJ ?_)) (by first|rfl|exact dF ai|exact im di ai ai|exact fQ gy)|refine .r (i:=22) hs rfl aA .none (aC rfl aq di) ?_
        refine .zw 23 rfl zm ?_;first|(refine .ixv 24 rfl hs ae an ?_;intro b131 o131 aaa)|refine .z 24 rfl (zix ae an) ?_
        first|refine .load (i:=25) hs rfl aA .none rfl aj ?_ (by repeat (first|exact .here|assumption|exact Mem.row ai ai|refine .there ?_|refine Mem.lJ ?_)) (by first|rfl|exact dF ai|exact im di ai ai|exact fQ gy)|refine .r (i:=25) hs rfl aA .none (aC rfl aj di) ?_
        refine .zw 26 rfl cH ?_;refine .z 27 rfl Dq ?_;refine .z 28 rfl DK ?_;first|(refine .ixv 29 rfl hs ae an ?_;intro YC o136 O7)|refine .z 29 rfl (zix ae an) ?_
        refine .ET 30 hs ?_;refine .store hs rfl rfl an ?_ (.there (Upd.row _ ai ai)) (AI (by rw [hq.2 _ hi];exact hk)) (wc _ _ _);intro w hs;exact .go (.DT hs (nB (nT (.mk ⟨rfl,_,hq.set hi _,by rw [Hp hq hi hk];exact hI.step F2 hm hi hk (fun a b h=>by omega) IQ tk,hs⟩))))
       ·exact .skip (nB (nT (.mk ⟨rfl,rs,hq,hI.skip F2 hm (P:=fun a b=>a=i∧b=k) (fun a b h=>by omega) (fun a b _ _ h=>by obtain ⟨rfl,rfl⟩:=h;exact .inr tk),hs⟩)))
      ·exact .Fs 8 8 true (.zn zpF (.cF (.skip (nB (nT (.mk ⟨rfl,rs,hq,hI.skip F2 hm (P:=fun a b=>a=i∧b=k) (fun a b h=>by omega) (fun a b _ _ h=>by obtain ⟨rfl,rfl⟩:=h;exact .inl IQ),hs⟩))))))
     ·rintro fr w ⟨rfl,rs,hq,hI,hs⟩;exact nB (nT (.mk ⟨rfl,rs,hq,hI.skip F2 hm (P:=fun a b=>a=i∧n≤b) (fun a b h=>by omega) (fun a b _ hb h=>by omega),hs⟩))
    ·rintro fr w ⟨rfl,rs,hq,hI,hs⟩;replace hI:Dz n s.dG m (fun _ _=>True) (gt rs):=hI.skip F2 hm (P:=fun a _=>n≤a) (fun a b h=>by omega) (fun a b ha _ h=>by omega);exact nB (nT (.mk ⟨rfl,rs,hq,fun h=>hI.next F2 h Bk,fun h=>hI.done F2 h.symm Bk,hs⟩))
   ·rintro fr w ⟨rfl,rs,hq,-,hT,hs⟩;replace hT:=hT rfl;refine nT (.af (.z zm (.zn zg (.ret (Fin.bj results207 rfl ?_)))));obtain ⟨H1,g1,g2,hs⟩:=Cv hq Bp ai hs;exact ⟨H1,rs,g1,g2,hq,hT,hs.tail⟩
theorem qo{w:World}{rs:List (List Int)}{n:Nat}(hs:St H w σ)(hM:RT H vm rs)(hq:Sq n rs)(hn:n≤1000):
  aaR 208 [vm] w fun v w'=>∃b,v= .bool b∧(b=true↔∀i,i<n→¬gt rs i i<0)∧St H w' σ:=by
 obtain ⟨a,c,rfl⟩:=hM.shape;have BY:=hq.1;refine Cl.o func208 ntmps208 ag1 ?_;refine .af (.zn zg (.seq (.af (.z zm (.z (de au) (.zn zm (.for (N:=rs.length) (J:=fun k fr w=>fr=[(0,.slice a rs.length c)]∧(∀i,i<k→¬gt rs i i<0)∧St H w σ) ai ?_ ?_ ?_)))))))
 ·exact .mk ⟨rfl,fun i h=>by omega,hs⟩
 ·rintro k fr w hk ⟨rfl,h0,hs⟩;refine .block (.af (.z zm (.zn zg (.af (.z zm (.z zm (.ixT hs hM rfl rfl au aI hk rfl ?_)))))));intro Cd o11 a11 c11 pL X7;refine .q hs (aC rfl aq pL) (.z zm (.ixY hs X7 rfl rfl ae an (bu (l:=gr rs k) (i:=k) (by rw [hq.2 k ai];omega)) rfl ?_));intro oh o14 jH;refine .q hs (aC rfl aj jH) (.zn fN (.bh rfl (fun eC=>?_) (fun eC=>?_)))
  ·exact .af (.zn zg (.ret (rB (rT (rB (rT (Fin.bj results208 rfl ⟨false,rfl,⟨fun h=>(by cases h),fun h=>(h k ai eC).elim⟩,hs⟩)))))))
  ·refine .skip (nB (nT ?_));exact .mk ⟨rfl,fun i hi=>by
    by_cases e:i=k
    ·subst e;exact eC
    ·exact h0 i ai,hs⟩
 ·rintro fr w ⟨rfl,h0,hs⟩;exact nT (.af (.zn zg (.ret (Fin.bj results208 rfl ⟨true,rfl,⟨fun _ i hi=>h0 i ai,fun _=>rfl⟩,hs⟩))))
theorem uL{w:World}{v:Value}{n:Nat}(hs:St H w σ)(hr:RI H v ws)(hl:ws.length=n+1)(hn:n≤1000)(hz:bT ws (n+1)≤FF):
  aaR 307 [v] w fun u w'=>∃b cap sp lf,u= .slice (some ⟨b,0,none⟩) (n+1) cap∧lf.length=n+1∧(∀v<n+1,gi lf v=qC ws (n+1) v)∧St H w' (.blk b (Is lf++sp)::σ):=by
 obtain ⟨a,c,rfl⟩:=RI.shape hr;have aaC:FF=3600000000000:=rfl;refine Cl.o func307 ntmps307 ag1 ?_;refine .af (.zn zg (.af (.o (.buildSlice (cells:=[]) hs se rfl rfl fun b6 w hs=>?_))));refine .z zm (.o (.append (xs:=[]) hs cA rfl rfl (.full (len:=0) rfl) (.ints hr) (iP ws) (fun l' h=>by simp at h;obtain rfl:l'=0:=ai;omega) ?_));intro v8 en8 w hO hs;rw [List.nil_append] at hO
 rcases hO with ⟨_,_,h0,_⟩|⟨b8,l8,c8,sp,rfl,rfl,h5,h6,h7⟩
 ·exfalso;have h1:ws.length=0:=by simpa using congrArg List.length h0
  omega
 obtain rfl:l8=n+1:=by simp at h5;omega
 refine .zn zg (.af (.z zm (.q hs (eS (k:=0) rfl rfl ae an rfl ai) (.o (.store hs rfl rfl an ?_ dy (by simp;omega) (GP ai 0 sp))))));intro w hs;refine .nil (.seq (.af (.z zm (.q hs (DZ (k:=1) rfl rfl ae an rfl ai) ?_))));have hT:=RI.tail hr (k:=1) ai;have hTl:(ws.drop 1).length=n:=by rw [List.length_drop];omega
 refine .z (de ae) (.zn zm (.for (N:=n) (J:=fun k fr w=>fr=[(12,.slice (if c=1 then a else a.map (·.add (1*1))) (ws.length - 1) (c - 1)),(3,.slice (some ⟨b8,0,none⟩) (n+1) c8)]∧∃lf,(lf.length=n+1∧gi lf 0= -mW ws k∧∀v,0<v→gi lf v=gi ws v)∧St H w (.blk b8 (Is lf++sp)::σ)) ai ?_ ?_ ?_))
 ·exact .mk ⟨rfl,_,⟨by simp [hl],by rw [fo ai,if_pos rfl];rfl,fun v hv=>by rw [fo ai,if_neg ai]⟩,hs⟩ (hs:= .cD rfl rfl (.cD rfl ai aH))
 ·rintro k fr w hk ⟨rfl,lf,⟨h8,h9,Yk⟩,hs⟩;have hx:=bu (l:=ws.drop 1) (i:=k) ai;have e1:gi (ws.drop 1) k=gi ws (k+1):=by simp [gi,List.getD]
  have B3:=wE ws k;have y8:=jV ws (v:=k+1) (n:=n+1) ai;have RO:=su (f:=fun v=>max (gi ws v) (-gi ws v)) (fun v=>by omega) (k:=k+1) (n:=n+1) ai;change bT ws (k+1)≤bT ws (n+1) at RO;refine .block (.af (.ixY hs hT rfl rfl ae an hx rfl ?_));intro nx o16 eC;refine .q hs (aC rfl aj eC) ?_;rw [e1];refine .zn zg (.region (.z zm (.q hs (eS (k:=0) rfl rfl ae an rfl ai) (.q hs (eG rfl aj (hv:=so (bu (l:=lf) (i:=0) ai) sp)) ?_))));refine .z zm (.z gx (.q hs (eS (k:=0) rfl rfl ae an rfl ai) (.o (.store hs rfl rfl an ?_ dy (by simp;omega) (GP ai _ sp)))));intro w hs;exact .nil (nB (nT (.mk ⟨rfl,_,⟨by simp [h8],by rw [fo ai,if_pos rfl,h9];simp only [mW,a8];omega,fun v hv=>by rw [fo ai,if_neg ai];exact Yk v hv⟩,hs⟩)))
 ·rintro fr w ⟨rfl,lf,⟨h8,h9,Yk⟩,hs⟩;refine nT (.af (.z zm (.zn zg (.ret (Fin.bj results307 rfl ?_)))));exact ⟨b8,c8,sp,lf,rfl,h8,fun v hv=>by
   cases v with
   |zero=>rw [h9,Cj]
   |succ v=>rw [Yk _ ai,Ck],hs⟩
theorem zT{w:World}{Fs:List (List Int)}{n bF:Nat}{bs:List Nat}(hs:St H w σ)(hM:RT H vm Ms)(Fg:Sq n Ms)(hn:n≤1000)(Jv:Mem σ (.blk bF (bs.map (ptr n))))(Bp:bs.length=n)(Jm:Sq n Fs)(hF:∀i,i<n→Mem σ (.blk (gb bs i) (Is (gr Fs i)))):
  aaR 309 [vm,.slice (some ⟨bF,0,none⟩) n n] w fun v w'=>v=I (IntKind.i64.wrap (a8 (fun a=>a8 (fun b=>cell (gt Ms) (gt Fs) a b) n) n))∧St H w' σ:=by
 obtain ⟨am,cm,rfl⟩:=hM.shape;have KK:=Fg.1;have A2:=Jm.1;refine Cl.o func309 ntmps309 ag2 ?_;refine .af (.zn zg (.af (.zn zg (.seq (.af (.z zm (.z (de au) (.zn zm (.for (N:=n) (J:=fun k fr w=>fr=[(5,I (IntKind.i64.wrap (a8 (fun a=>a8 (fun b=>cell (gt Ms) (gt Fs) a b) n) k))),(0,.slice am Ms.length cm),(1,.slice (some ⟨bF,0,none⟩) n n)]∧St H w σ) ai ?_ ?_ ?_)))))))))
 ·exact .mk ⟨rfl,hs⟩ (hs:= .cD rfl rfl (.cD rfl ai (.cD rfl (by simp [a8,sE]) aH)))
 ·rintro i fr w hi ⟨rfl,hs⟩;have hMi:i<Ms.length:=by omega
  refine .block (.af (.z zm (.zn zg (.af (.z zm (.z (de au) (.zn zm (.for (N:=n) (J:=fun k fr w=>fr=[(5,I (IntKind.i64.wrap (a8 (fun a=>a8 (fun b=>cell (gt Ms) (gt Fs) a b) n) i+a8 (fun b=>cell (gt Ms) (gt Fs) i b) k))),(6,I (i:Int)),(10,I (i:Int)),(9,I (n:Int)),(0,.slice am Ms.length cm),(1,.slice (some ⟨bF,0,none⟩) n n)]∧St H w σ) ai ?_ ?_ ?_))))))))
  ·exact .mk ⟨rfl,hs⟩ (hs:= .cD rfl rfl (.cD rfl ai (.cD rfl (by simp [a8]) aH)))
  ·rintro k fr w hk ⟨rfl,hs⟩;have hrM:(gr Ms i).length=n:=Fg.2 i hi;have hFi:=hF i hi;have vz:∀z,0<gt Fs i k→z=gt Fs i k*gt Ms i k→z=cell (gt Ms) (gt Fs) i k:=fun z h e=>by unfold cell;rw [if_pos h,e]
   refine .block (.af (.z zm (.zn zg (.af (.z zm (.z zm (.q hs (eS (k:=i) rfl rfl au aI rfl hi) (.q hs (eG rfl aq (hm:=Jv) (hv:=dF ai)) (.z zm (.q hs (eS (k:=k) rfl rfl ae an rfl hk) (.q hs (eG rfl aj (hm:=hF i hi) (hv:=im Jm hi hk)) (.zn kU (.bh rfl (fun fc=>?_) (fun fc=>?_))))))))))))))
   ·refine .draw mix rfl hs fun w hs=>?_
    refine .zw 0 rfl zm ?_;refine .z 1 rfl zm ?_;refine .z 2 rfl zm ?_;refine .zw 3 rfl (eS (k:=i) rfl rfl au aI rfl hi) (.load (i:=4) hs rfl aA .none rfl aq ?_ Jv (dF ai));refine .zw 5 rfl zm (.zw 6 rfl (eS (k:=k) rfl rfl ae an rfl hk) (.load (i:=7) hs rfl aA .none rfl aj ?_ (hF i hi) (im Jm hi hk)));refine .zw 8 rfl zm ?_;refine .z 9 rfl zm ?_;refine .ixT (i:=10) hs rfl aA .none hM rfl rfl au aI hMi rfl ?_;intro Vs o36 a36 c36 oN QN;refine .r (i:=11) hs rfl aA .none (aC rfl aq oN) ?_;refine .zw 12 rfl zm (.ixX (enc:=fun x=>[I x]) (i:=13) hs rfl aA .none QN rfl rfl ae an (bu (l:=gr Ms i) (i:=k) ai) rfl ?_);intro Py o39 kd;replace kd:=bD.one kd;refine .r (i:=14) hs rfl aA .none (aC rfl aj kd) ?_;refine .zw 15 rfl (MM rfl rfl) (.zw 16 rfl (J9 rfl rfl) (.zw 17 rfl zg (.DT hs (nB (nT ?_)))));exact .mk ⟨rfl,hs⟩ (hs:= .cD rfl ai (.cD rfl rfl (.cD rfl (by
     rw [Ei,Ak,show gt Fs i k*gi (gr Ms i) k=cell (gt Ms) (gt Fs) i k from vz _ fc rfl];simp only [a8]
     congr 1;omega) aH)))
   ·refine .skip (nB (nT ?_));exact .mk ⟨rfl,hs⟩ (hs:= .cD rfl ai (.cD rfl rfl (.cD rfl (by
     have:cell (gt Ms) (gt Fs) i k=0:=by unfold cell;rw [if_neg fc]
     simp only [a8,this]
     congr 1;omega) aH)))
  ·rintro fr w ⟨rfl,hs⟩;exact nB (nT (.mk ⟨rfl,hs⟩ (hs:= .cD rfl ai (.cD rfl rfl (.cD rfl (by simp only [a8]) aH)))))
 ·rintro fr w ⟨rfl,hs⟩;exact nT (.af (.z zm (.zn zg (.ret (Fin.bj results309 rfl ⟨rfl,hs⟩)))))
set_option maxHeartbeats 8000000 in
theorem yg{w:World}{Fs:List (List Int)}{n bF bN EU:Nat}{bs:List Nat}{spN:List Value}{need:List Int}{es:List Arc}{D:Nat→Int}(hs:St H w σ)(hM:RT H vm Ms)(Fg:Sq n Ms)
  (Jv:Mem σ (.blk bF (bs.map (ptr n)))) (Bp:bs.length=n) (Jm:Sq n Fs) (hF:∀i,i<n→Mem σ (.blk (gb bs i) (Is (gr Fs i)))) (hN:Mem σ (.blk bN (Is need++spN))) (hNl:need.length=n)
  (hT:Tab n (gt Ms) es) (hC:A7 n es ts (gt Fs)) (hg:VG n (dz es ts) D):
  aaR 308 [vm,.slice (some ⟨bF,0,none⟩) n n,.slice (some ⟨bN,0,none⟩) n EU] w fun u w'=>∃H1 vd vb s,HLe H H1∧u= .tuple #[vd,vb]∧RI H1 vd s.cost∧RS H1 2 vb (s.by_.map (o9 es))∧nZ n (dz es ts) (fun v=>gi need v<0) D (fun _=>True) false s∧St H1 w' σ:=by
 obtain ⟨am,cm,rfl⟩:=hM.shape;obtain rfl:n=Ms.length:=Fg.1.symm;have A2:=Jm.1;have U4:=hg.n0;have pJ:free=1000000000:=rfl;have Bk:=hg.n1;have hD0:=hg.d0;have hD1:=hg.d1;have NM:∀x∈es,-1400000≤x.c∧x.c≤1400000:=fun x hx=>by have:=hg.ok x ((ph hT hC).2 (.inl hx));omega
 refine Cl.o func308 ntmps308 ag3 ?_;refine .af (.z zg (.zn zg (.af (.z zm (.z (de au) (.o (.yu Ms.length hs rfl rfl ae kS rfl an dD ai fun nx w hs=>?_)))))));refine .zn zg (.af (.z zm (.z (de au) (.o (.VO Ms.length hs rfl rfl eY typeInfo337 rfl fF zeroValue337 ai fun pU w hs=>?_)))));refine .zn zg (.seq (.af (.z zm (.z (de ae) (.zn zm (.for (N:=Ms.length) (J:=fun k fr w=>fr=[(8,.slice (some ⟨nx,0,none⟩) Ms.length Ms.length),(9,.slice (some ⟨pU,0,none⟩) Ms.length Ms.length),(0,.slice am Ms.length cm),(1,.slice (some ⟨bF,0,none⟩) Ms.length Ms.length),(2,.slice (some ⟨bN,0,none⟩) Ms.length EU)]∧∃C,(C.length=Ms.length∧∀v<k,gi C v=if gi need v<0 then 0 else free)∧St H w (.blk pU (List.replicate k [I (-1),Value.bool false]++List.replicate (Ms.length - k) [I 0,Value.bool false]).flatten:: .blk nx (Is C)::σ)) ai ?_ ?_ ?_))))))
 ·exact .mk ⟨rfl,_,⟨bH,fun v hv=>by omega⟩,hs⟩
 ·rintro k fr w hk ⟨rfl,C,⟨Vl,Vk⟩,hs⟩;have KB:=MF Ms.length hk [I (-1),Value.bool false] rfl [I 0,Value.bool false] rfl;refine .block (.af (.z zm (.zn zg (.af (.z zm (.z zm ?_))))));first|(refine .ixv hs ae an ?_;intro AK o27 qQ)|refine .z (zix ae an) ?_
  refine .o (.store hs rfl rfl an fun w hs=>?_);refine .nil (.af (.z zm (.z zm (.z (zbd [_,_] jO) ?_))));first|(refine .ixw hs eY fF ?_;intro Mc o31 nk)|refine .z (oe eY fF) ?_
  refine .o (.aE (vs:=[I (-1),Value.bool false]) hs rfl rfl fF ?_ dy (by simp;omega) KB);intro w hs;refine .nil (.af (.z zm (.z zm ?_)));first|(refine .ixv hs ae an ?_;intro Pz o34 jx)|refine .z (zix ae an) ?_
  refine .q hs (eG rfl aj (hm:= .there (.there hN)) (hv:=so (bu (l:=need) (i:=k) ai) spN)) ?_;refine .zn fN (.bh rfl (fun oN=>?_) (fun oN=>?_))
  ·refine .region (.z zm (.z zm ?_));first|(refine .ixv hs ae an ?_;intro Py o39 kd)|refine .z (zix ae an) ?_
   refine .o (.store hs rfl rfl an ?_ dy (AI (by rw [List.length_set];omega)) (wc _ _ _));intro w hs;refine .nil (nB (nT ?_));exact .mk ⟨rfl,_,⟨by simp [Vl],fun v hv=>by
    rw [fo (by rw [List.length_set];omega)];by_cases e:v=k
    ·subst e;rw [if_pos rfl,if_pos oN]
    ·rw [if_neg e,fo ai,if_neg e];exact Vk v ai⟩,hs⟩
  ·refine .skip (nB (nT ?_));exact .mk ⟨rfl,_,⟨by simp [Vl],fun v hv=>by
    rw [fo ai];by_cases e:v=k
    ·subst e;rw [if_pos rfl,if_neg oN]
    ·rw [if_neg e];exact Vk v ai⟩,hs⟩
 ·rintro fr w ⟨rfl,C,⟨Vl,Vk⟩,hs⟩;rw [Nat.sub_self,List.replicate_zero,List.append_nil,I7 es] at hs;have hI:Oe Ms.length need Ms.length ⟨C,List.replicate Ms.length ⟨0,0,0,-1⟩⟩:=⟨Vl,bH,Vk,fun v hv=>kN _ _ hv⟩;have hV0:=hI.inv (Dn:=fun _=>True) hg;refine nT (.seq (.af (.zn zg (.block (.loop (fun p:Bool×BS=>⟨160,[],[(11,.bool p.1),(8,.slice (some ⟨nx,0,none⟩) Ms.length Ms.length),(9,.slice (some ⟨pU,0,none⟩) Ms.length Ms.length),(0,.slice am Ms.length cm),(1,.slice (some ⟨bF,0,none⟩) Ms.length Ms.length),(2,.slice (some ⟨bN,0,none⟩) Ms.length EU)]⟩) (fun p w=>nZ Ms.length (dz es ts) (fun v=>gi need v<0) D (fun _=>True) p.1 p.2∧St H w (.blk pU (kQ es p.2.by_):: .blk nx (Is p.2.cost)::σ)) (fun p=>2*WMv Ms.length D p.2+(if p.1 then 1 else 0)) (true,⟨C,List.replicate Ms.length ⟨0,0,0,-1⟩⟩) aH ⟨hV0,hs⟩ ?_)))));rintro ⟨ag,s⟩ w ⟨hV,hs⟩;dsimp only at hV hs ⊢;refine .seq (.af (.zn zm (.cond rfl (fun rO=>?_) (fun rO=>?_))))
  ·refine .skip (nT (.block (.af (.zn zg (.af (.z zm (.z (de au) (.zn zm (.for (N:=Ms.length) (J:=fun a fr w=>∃ag s',fr=[(11,.bool ag),(8,.slice (some ⟨nx,0,none⟩) Ms.length Ms.length),(9,.slice (some ⟨pU,0,none⟩) Ms.length Ms.length),(0,.slice am Ms.length cm),(1,.slice (some ⟨bF,0,none⟩) Ms.length Ms.length),(2,.slice (some ⟨bN,0,none⟩) Ms.length EU)]∧nZ Ms.length (dz es ts) (fun v=>gi need v<0) D (DA a 0) ag s'∧(WMv Ms.length D s'≤WMv Ms.length D s∧(ag=true→WMv Ms.length D s'<WMv Ms.length D s))∧St H w (.blk pU (kQ es s'.by_):: .blk nx (Is s'.cost)::σ)) ai ?_ ?_ ?_)))))))))
   ·exact .mk ⟨false,s,rfl,hV.next.zero,⟨Nat.le_refl _,fun h=>by cases h⟩,hs⟩
   ·rintro a fr w ha ⟨ag',s',rfl,uu,hW,hs⟩;have Dv:=uu.lc;have Nk:=uu.top a ha;refine .block (.af (.z zm (.zn zg (.seq (.af (.z zm (.z zm ?_)))))));first|(refine .ixv hs ae an ?_;intro Yu o49 sX)|refine .z (zix ae an) ?_
    first|refine .q hs (eG rfl aj (hm:=by repeat (first|exact .here|assumption|exact Mem.row ai ai|refine .there ?_|refine Mem.lJ ?_)) (hv:=by first|rfl|exact dF ai|exact im di ai ai|exact fQ gy)) ?_|refine .q hs (aC rfl aj di) ?_
    refine .zn fy (.bh rfl (fun Ev=>?_) (fun Ev=>?_))
    ·exact .exit (xT (xB (nT (.mk ⟨ag',s',rfl,uu.far Ev,hW,hs⟩))))
    ·refine .skip (nT (.af (.z zm (.z (de au) (.zn zm (.for (N:=Ms.length) (J:=fun b fr w=>∃ag s',fr=[(11,.bool ag),(12,I (a:Int)),(44,I (a:Int)),(43,I (Ms.length:Int)),(8,.slice (some ⟨nx,0,none⟩) Ms.length Ms.length),(9,.slice (some ⟨pU,0,none⟩) Ms.length Ms.length),(0,.slice am Ms.length cm),(1,.slice (some ⟨bF,0,none⟩) Ms.length Ms.length),(2,.slice (some ⟨bN,0,none⟩) Ms.length EU)]∧nZ Ms.length (dz es ts) (fun v=>gi need v<0) D (DA a b) ag s'∧(WMv Ms.length D s'≤WMv Ms.length D s∧(ag=true→WMv Ms.length D s'<WMv Ms.length D s))∧gi s'.cost a<free∧St H w (.blk pU (kQ es s'.by_):: .blk nx (Is s'.cost)::σ)) ai ?_ ?_ ?_))))))
     ·exact .mk ⟨ag',s',rfl,uu,hW,by simp only [free];omega,hs⟩
     ·clear uu Dv Nk hW;rintro b fr w hb ⟨ag',s',rfl,uu,hW,Jt,hs⟩;have Dv:=uu.lc;have rL:=uu.low hg ha Jt;have w6:=uu.lo a ha;have hDa:=hD1 a ha;have Nk:=uu.top b hb;have Zx:(gr Ms a).length=Ms.length:=Fg.2 a ha;have Zw:(gr Ms b).length=Ms.length:=Fg.2 b hb;have hFb:=hF b hb;refine .block (.af (.z zm (.zn zg (.cut (fun fs w=>∃ag s',kG fs ⟨160,[],[(11,.bool ag),(13,I (b:Int)),(54,I (b:Int)),(53,I (Ms.length:Int)),(12,I (a:Int)),(44,I (a:Int)),(43,I (Ms.length:Int)),(8,.slice (some ⟨nx,0,none⟩) Ms.length Ms.length),(9,.slice (some ⟨pU,0,none⟩) Ms.length Ms.length),(0,.slice am Ms.length cm),(1,.slice (some ⟨bF,0,none⟩) Ms.length Ms.length),(2,.slice (some ⟨bN,0,none⟩) Ms.length EU)]⟩∧nZ Ms.length (dz es ts) (fun v=>gi need v<0) D (LU es a b) ag s'∧(WMv Ms.length D s'≤WMv Ms.length D s∧(ag=true→WMv Ms.length D s'<WMv Ms.length D s))∧gi s'.cost a<free∧St H w (.blk pU (kQ es s'.by_):: .blk nx (Is s'.cost)::σ)) ?_ ?_))))
      ·refine .cut (fun fs w=>∃p,kG fs ⟨160,[],[(88,.bool p),(11,.bool ag'),(13,I (b:Int)),(54,I (b:Int)),(53,I (Ms.length:Int)),(12,I (a:Int)),(44,I (a:Int)),(43,I (Ms.length:Int)),(8,.slice (some ⟨nx,0,none⟩) Ms.length Ms.length),(9,.slice (some ⟨pU,0,none⟩) Ms.length Ms.length),(0,.slice am Ms.length cm),(1,.slice (some ⟨bF,0,none⟩) Ms.length Ms.length),(2,.slice (some ⟨bN,0,none⟩) Ms.length EU)]⟩∧(p=true→a≠b∧gt Ms a b≠free∧gi s'.cost a+gt Ms a b<gi s'.cost b)∧(p=false→a=b∨gt Ms a b=free∨¬gi s'.cost a+gt Ms a b<gi s'.cost b)∧St H w (.blk pU (kQ es s'.by_):: .blk nx (Is s'.cost)::σ)) ?_ ?_
       ·refine .draw mix rfl hs fun w hs=>?_
        refine .zw 0 rfl zm ?_;refine .z 1 rfl zm ?_;refine .z 2 rfl fV ?_;refine .z 3 rfl zm ?_;refine .EX (t':=60) rfl (fun Lf=>?_) (fun Lf=>?_)
        ·refine .zw 4 rfl zm ?_;refine .z 5 rfl zm ?_;refine .ixT (i:=6) hs rfl aA (.some rfl rfl) hM rfl rfl au aI ha rfl ?_;intro Un o63 a63 c63 pK XW;refine .r (i:=7) hs rfl aA (.some rfl rfl) (aC rfl aq pK) ?_;refine .zw 8 rfl zm (.ixX (enc:=fun x=>[I x]) (i:=9) hs rfl aA (.some rfl rfl) XW rfl rfl ae an (bu (l:=_) (i:=b) ai) rfl ?_);intro b66 o66 tT;replace tT:=bD.one tT;refine .r (i:=10) hs rfl aA (.some rfl rfl) (aC rfl aj tT) ?_;refine .zw 11 rfl fV ?_;refine .z 12 rfl zpT ?_;refine .z 13 rfl zm ?_;refine .EX (t':=70) rfl (fun EE=>?_) (fun EE=>?_)
         ·refine .zw 14 rfl zm ?_;refine .z 15 rfl zm ?_;have Bl:gt Ms a b≠free:=EE;have hMb: -1400000≤gi (gr Ms a) b∧gi (gr Ms a) b≤1400000:=by
           obtain ⟨x,hx,e1,e2⟩:=hT.all a b ha hb (fun e=>Lf (by rw [e])) Bl;have h1:=NM x hx;have h2:=(hT.ok x hx).2.2.2.1;rw [e1,e2] at h2;change gi (gr Ms a) b=x.c at h2;omega
          first|(refine .ixv 16 rfl hs ae an ?_;intro b73 o73 Xr)|refine .z 16 rfl (zix ae an) ?_
          first|refine .load (i:=17) hs rfl aA (.some rfl rfl) rfl aj ?_ (by repeat (first|exact .here|assumption|exact Mem.row ai ai|refine .there ?_|refine Mem.lJ ?_)) (by first|rfl|exact dF ai|exact im di ai ai|exact fQ gy)|refine .r (i:=17) hs rfl aA (.some rfl rfl) (aC rfl aj di) ?_
          refine .zw 18 rfl zm ?_;refine .z 19 rfl zm ?_;refine .ixT (i:=20) hs rfl aA (.some rfl rfl) hM rfl rfl au aI ha rfl ?_;intro b77 o77 a77 c77 KU XU;refine .r (i:=21) hs rfl aA (.some rfl rfl) (aC rfl aq KU) ?_;refine .zw 22 rfl zm (.ixX (enc:=fun x=>[I x]) (i:=23) hs rfl aA (.some rfl rfl) XU rfl rfl ae an (bu (l:=_) (i:=b) ai) rfl ?_);intro b80 o80 Eu;replace Eu:=bD.one Eu;refine .r (i:=24) hs rfl aA (.some rfl rfl) (aC rfl aj Eu) ?_;refine .zw 25 rfl cH ?_;refine .z 26 rfl zm ?_;refine .z 27 rfl zm ?_;first|(refine .ixv 28 rfl hs ae an ?_;intro aaJ o85 NB)|refine .z 28 rfl (zix ae an) ?_
          first|refine .load (i:=29) hs rfl aA (.some rfl rfl) rfl aj ?_ (by repeat (first|exact .here|assumption|exact Mem.row ai ai|refine .there ?_|refine Mem.lJ ?_)) (by first|rfl|exact dF ai|exact im di ai ai|exact fQ gy)|refine .r (i:=29) hs rfl aA (.some rfl rfl) (aC rfl aj di) ?_
          refine .zw 30 rfl fN ?_;refine .z 31 rfl zpT ?_;refine .DT hs ?_;exact nT ⟨_,aH,by
           intro hp;first
            |(cases hp;done)
            |exact ⟨fun e=>Lf (by rw [e]),EE,of_decide_eq_true hp⟩,by
           intro hp;first
            |(cases hp;done)
            |exact .inl ai
            |exact .inr (.inl EE)
            |exact .inr (.inr (of_decide_eq_false hp)),hs⟩
         ·refine .F 14 rfl (.F 15 rfl (.F 16 rfl (.F 17 rfl (.F 18 rfl (.F 19 rfl ?_)))));refine .F 20 rfl (.F 21 rfl (.F 22 rfl (.F 23 rfl (.F 24 rfl (.F 25 rfl (.F 26 rfl (.F 27 rfl (.F 28 rfl (.F 29 rfl (.F 30 rfl (.zw 31 rfl zpF (.DT hs ?_))))))))))));exact nT ⟨_,aH,by
           intro hp;first
            |(cases hp;done)
            |exact ⟨fun e=>Lf (by rw [e]),EE,of_decide_eq_true hp⟩,by
           intro hp;first
            |(cases hp;done)
            |exact .inl ai
            |exact .inr (.inl EE)
            |exact .inr (.inr (of_decide_eq_false hp)),hs⟩
        ·refine .F 4 rfl (.F 5 rfl (.F 6 rfl (.F 7 rfl (.F 8 rfl (.F 9 rfl (.F 10 rfl (.F 11 rfl (.zw 12 rfl zpF ?_))))))));refine .z 13 rfl zm ?_;refine .F 14 rfl (.F 15 rfl (.F 16 rfl (.F 17 rfl (.F 18 rfl (.F 19 rfl ?_)))));refine .F 20 rfl (.F 21 rfl (.F 22 rfl (.F 23 rfl (.F 24 rfl (.F 25 rfl (.F 26 rfl (.F 27 rfl (.F 28 rfl (.F 29 rfl (.F 30 rfl (.zw 31 rfl zpF (.DT hs ?_))))))))))));exact nT ⟨_,aH,by
          intro hp;first
           |(cases hp;done)
           |exact ⟨fun e=>Lf (by rw [e]),EE,of_decide_eq_true hp⟩,by
          intro hp;first
           |(cases hp;done)
           |exact .inl ai
           |exact .inr (.inl EE)
           |exact .inr (.inr (of_decide_eq_false hp)),hs⟩
       ·rintro fs w ⟨p,fM,BZ,xG,hs⟩;refine WE.sub ?_ fM;refine (.cond rfl (fun tS=>?_) (fun tS=>?_))
        ·refine .seq (.draw mix rfl hs fun w hs=>?_);obtain ⟨RP,Bl,fb⟩:=BZ tS;obtain ⟨x,hx,e1,e2⟩:=hT.all a b ha hb RP Bl;have e3:gi (gr Ms a) b=x.c:=by
          have h2:=(hT.ok x hx).2.2.2.1;rw [e1,e2] at h2;exact h2
         have hxc:=NM x hx;have sV:¬x.l<0:=by have:=(hT.at hx).2;omega
         have KB:o9 es x=[I (a:Int),.bool false]:=by
          unfold o9;rw [if_neg sV,e1];simp [(hT.xc hx).1]
         have CR:te (kQ es s'.by_) (b*2) [I (a:Int),Value.bool false]=kQ es (s'.by_.set b x):=by rw [←KB];exact Cy (by have:=uu.lb;omega) x
         have Wf:s'.rlx x=⟨s'.cost.set b (gi s'.cost a+gi (gr Ms a) b),s'.by_.set b x⟩:=by unfold BS.rlx;rw [e1,e2,e3]
         have KR:s'.can x:=by unfold BS.can;rw [e1,e2,←e3];exact fb
         have yw:x∈dz es ts:=(ph hT hC).2 (.inl hx);have Dw:=uu.lb;refine .zw 0 rfl zm ?_;refine .z 1 rfl zm ?_;refine .z 2 rfl zm ?_;refine .z 3 rfl zm ?_;first|(refine .ixv 4 rfl hs ae an ?_;intro b93 o93 F3)|refine .z 4 rfl (zix ae an) ?_
         first|refine .load (i:=5) hs rfl aA .none rfl aj ?_ (by repeat (first|exact .here|assumption|exact Mem.row ai ai|refine .there ?_|refine Mem.lJ ?_)) (by first|rfl|exact dF ai|exact im di ai ai|exact fQ gy)|refine .r (i:=5) hs rfl aA .none (aC rfl aj di) ?_
         refine .zw 6 rfl zm ?_;refine .z 7 rfl zm ?_;refine .ixT (i:=8) hs rfl aA .none hM rfl rfl au aI ha rfl ?_;intro Yo o97 a97 c97 Nz XT;refine .r (i:=9) hs rfl aA .none (aC rfl aq Nz) ?_;refine .zw 10 rfl zm (.ixX (enc:=fun x=>[I x]) (i:=11) hs rfl aA .none XT rfl rfl ae an (bu (l:=_) (i:=b) ai) rfl ?_);intro Ri o100 nP;replace nP:=bD.one nP;refine .r (i:=12) hs rfl aA .none (aC rfl aj nP) ?_;refine .zw 13 rfl cH ?_;first|(refine .ixv 14 rfl hs ae an ?_;intro YO o103 EB)|refine .z 14 rfl (zix ae an) ?_
         refine .ET 15 hs ?_;refine .store hs rfl rfl an ?_;intro w hs;refine .go (.DT hs (.af (.z zm (.z zm (.z zm (.z (zbd [_,_] jO) ?_))))));first|(refine .ixw hs eY fF ?_;intro b108 o108 Pb)|refine .z (oe eY fF) ?_
         refine .o (.aE (vs:=[I (a:Int),Value.bool false]) hs rfl rfl fF ?_ dy (by rw [qg];simp<;>omega) CR);intro w hs;refine .nil (.region (.zn zg (nT ?_)));have hR:=uu.Bd (Dn':=LU es a b) hg yw (by rw [e1];exact Jt) KR;have hL:=uu.less hg yw (by rw [e1];exact Jt) KR;rw [Wf] at hR hL;exact ⟨true,_,aH,hR,⟨ai,fun _=>by omega⟩,by dsimp only;rw [fo ai,if_neg RP];exact Jt,hs⟩
        ·refine .skip (nT ?_);exact ⟨ag',s',aH,uu.noF (fun x hx e1 e2 hc=>by
          obtain ⟨b1,b2,b3,b4,b5⟩:=hT.ok x hx;rw [e1,e2] at b4
          rcases xG tS with h|h|h
          ·exact b3 (by rw [e1,e2,h])
          ·exact b5 (by rw [←b4,h])
          ·exact h (by rw [b4];exact hc.2)),hW,Jt,hs⟩
      ·clear uu hW Dv rL w6 Nk Jt;rintro fs w ⟨ag',s',fM,uu,hW,Jt,hs⟩;refine WE.sub ?_ fM;have Dv:=uu.lc;have rL:=uu.low hg ha Jt;have w6:=uu.lo a ha;have Nk:=uu.top b hb;refine .cut (fun fs w=>∃p,kG fs ⟨160,[],[(135,.bool p),(11,.bool ag'),(13,I (b:Int)),(54,I (b:Int)),(53,I (Ms.length:Int)),(12,I (a:Int)),(44,I (a:Int)),(43,I (Ms.length:Int)),(8,.slice (some ⟨nx,0,none⟩) Ms.length Ms.length),(9,.slice (some ⟨pU,0,none⟩) Ms.length Ms.length),(0,.slice am Ms.length cm),(1,.slice (some ⟨bF,0,none⟩) Ms.length Ms.length),(2,.slice (some ⟨bN,0,none⟩) Ms.length EU)]⟩∧(p=true→0<gt Fs b a∧gi s'.cost a - gt Ms b a<gi s'.cost b)∧(p=false→¬0<gt Fs b a∨¬gi s'.cost a - gt Ms b a<gi s'.cost b)∧St H w (.blk pU (kQ es s'.by_):: .blk nx (Is s'.cost)::σ)) ?_ ?_
       ·refine .draw mix rfl hs fun w hs=>?_
        refine .zw 0 rfl zm ?_;refine .z 1 rfl zm ?_;refine .zw 2 rfl (eS (k:=b) rfl rfl au aI rfl hb) (.load (i:=3) hs rfl aA .none rfl aq ?_ (.there (.there Jv)) (dF ai));refine .zw 4 rfl zm (.zw 5 rfl (eS (k:=a) rfl rfl ae an rfl ha) (.load (i:=6) hs rfl aA .none rfl aj ?_ (.there (.there (hF b hb))) (im Jm hb ha)));refine .zw 7 rfl kU ?_;refine .z 8 rfl zm ?_;refine .iz (t':=117) rfl (fun B2=>?_) (fun B2=>?_)
        ·refine .zw 9 rfl zm ?_;refine .z 10 rfl zm ?_;have hMb: -1400000≤gi (gr Ms b) a∧gi (gr Ms b) a≤1400000:=by
          obtain ⟨x,hx,e1,e2⟩:=hC.pos hb ha B2;have h1:=NM x hx;have h2:=(hT.ok x hx).2.2.2.1;rw [e1,e2] at h2;change gi (gr Ms b) a=x.c at h2;omega
         first|(refine .ixv 11 rfl hs ae an ?_;intro YH o120 TF)|refine .z 11 rfl (zix ae an) ?_
         first|refine .load (i:=12) hs rfl aA (.some rfl rfl) rfl aj ?_ (by repeat (first|exact .here|assumption|exact Mem.row ai ai|refine .there ?_|refine Mem.lJ ?_)) (by first|rfl|exact dF ai|exact im di ai ai|exact fQ gy)|refine .r (i:=12) hs rfl aA (.some rfl rfl) (aC rfl aj di) ?_
         refine .zw 13 rfl zm ?_;refine .z 14 rfl zm ?_;refine .ixT (i:=15) hs rfl aA (.some rfl rfl) hM rfl rfl au aI hb rfl ?_;intro Ut o124 a124 c124 La T3;refine .r (i:=16) hs rfl aA (.some rfl rfl) (aC rfl aq La) ?_;refine .zw 17 rfl zm (.ixX (enc:=fun x=>[I x]) (i:=18) hs rfl aA (.some rfl rfl) T3 rfl rfl ae an (bu (l:=_) (i:=a) ai) rfl ?_);intro YF o127 B0;replace B0:=bD.one B0;refine .r (i:=19) hs rfl aA (.some rfl rfl) (aC rfl aj B0) ?_;refine .zw 20 rfl gx ?_;refine .z 21 rfl zm ?_;refine .z 22 rfl zm ?_;first|(refine .ixv 23 rfl hs ae an ?_;intro b132 o132 Z9)|refine .z 23 rfl (zix ae an) ?_
         first|refine .load (i:=24) hs rfl aA (.some rfl rfl) rfl aj ?_ (by repeat (first|exact .here|assumption|exact Mem.row ai ai|refine .there ?_|refine Mem.lJ ?_)) (by first|rfl|exact dF ai|exact im di ai ai|exact fQ gy)|refine .r (i:=24) hs rfl aA (.some rfl rfl) (aC rfl aj di) ?_
         refine .zw 25 rfl fN ?_;refine .z 26 rfl zpT ?_;refine .DT hs ?_;exact nT ⟨_,aH,by
          intro hp;first
           |(cases hp;done)
           |exact ⟨B2,of_decide_eq_true hp⟩,by
          intro hp;first
           |(cases hp;done)
           |exact .inl B2
           |exact .inr (of_decide_eq_false hp),hs⟩
        ·refine .F 9 rfl (.F 10 rfl (.F 11 rfl (.F 12 rfl (.F 13 rfl (.F 14 rfl ?_)))));refine .F 15 rfl (.F 16 rfl (.F 17 rfl (.F 18 rfl (.F 19 rfl (.F 20 rfl (.F 21 rfl (.F 22 rfl (.F 23 rfl (.F 24 rfl (.F 25 rfl (.zw 26 rfl zpF (.DT hs ?_))))))))))));exact nT ⟨_,aH,by
          intro hp;first
           |(cases hp;done)
           |exact ⟨B2,of_decide_eq_true hp⟩,by
          intro hp;first
           |(cases hp;done)
           |exact .inl B2
           |exact .inr (of_decide_eq_false hp),hs⟩
       ·rintro fs w ⟨p,fM,BZ,xG,hs⟩;refine WE.sub ?_ fM;refine (.cond rfl (fun Ar=>?_) (fun Ar=>?_))
        ·refine .seq (.draw mix rfl hs fun w hs=>?_);obtain ⟨IF,fb⟩:=BZ Ar;obtain ⟨x,hx,e1,e2⟩:=hC.pos hb ha IF;have e3:gi (gr Ms b) a=x.c:=by
          have h2:=(hT.ok x hx).2.2.2.1;rw [e1,e2] at h2;exact h2
         have hxc:=NM x hx;have RP:a≠b:=fun e=>(hT.ok x hx).2.2.1 (by rw [e1,e2,e])
         have sV:¬x.back.l<0:=by have:=(hT.at hx).2;show ¬x.l<0;omega
         have e4:x.back.f=a:=e2;have e5:x.back.t=b:=e1;have KB:o9 es x.back=[I (a:Int),.bool true]:=by
          unfold o9;rw [if_neg sV,e4];simp [(hT.xc hx).2]
         have CR:te (kQ es s'.by_) (b*2) [I (a:Int),Value.bool true]=kQ es (s'.by_.set b x.back):=by rw [←KB];exact Cy (by have:=uu.lb;omega) x.back
         have Wf:s'.rlx x.back=⟨s'.cost.set b (gi s'.cost a - gi (gr Ms b) a),s'.by_.set b x.back⟩:=by
          unfold BS.rlx;rw [e4,e5,e3];rfl
         have KR:s'.can x.back:=by
          unfold BS.can;rw [e4,e5];show gi s'.cost a+ -x.c<_;rw [←e3];exact fb
         have yw:x.back∈dz es ts:=(ph hT hC).2 (.inr ⟨x,hx,by rw [e1,e2];exact IF,rfl⟩);have Dw:=uu.lb;refine .zw 0 rfl zm ?_;refine .z 1 rfl zm ?_;refine .z 2 rfl zm ?_;refine .z 3 rfl zm ?_;first|(refine .ixv 4 rfl hs ae an ?_;intro YA o140 Z8)|refine .z 4 rfl (zix ae an) ?_
         first|refine .load (i:=5) hs rfl aA .none rfl aj ?_ (by repeat (first|exact .here|assumption|exact Mem.row ai ai|refine .there ?_|refine Mem.lJ ?_)) (by first|rfl|exact dF ai|exact im di ai ai|exact fQ gy)|refine .r (i:=5) hs rfl aA .none (aC rfl aj di) ?_
         refine .zw 6 rfl zm ?_;refine .z 7 rfl zm ?_;refine .ixT (i:=8) hs rfl aA .none hM rfl rfl au aI hb rfl ?_;intro b144 o144 a144 c144 Ey T2;refine .r (i:=9) hs rfl aA .none (aC rfl aq Ey) ?_;refine .zw 10 rfl zm (.ixX (enc:=fun x=>[I x]) (i:=11) hs rfl aA .none T2 rfl rfl ae an (bu (l:=_) (i:=a) ai) rfl ?_);intro b147 o147 K6;replace K6:=bD.one K6;refine .r (i:=12) hs rfl aA .none (aC rfl aj K6) ?_;refine .zw 13 rfl gx ?_;first|(refine .ixv 14 rfl hs ae an ?_;intro Yz o150 Hk)|refine .z 14 rfl (zix ae an) ?_
         refine .ET 15 hs ?_;refine .store hs rfl rfl an ?_;intro w hs;refine .go (.DT hs (.af (.z zm (.z zm (.z zm (.z (zbd [_,_] jO) ?_))))));first|(refine .ixw hs eY fF ?_;intro Yy o155 O4)|refine .z (oe eY fF) ?_
         refine .o (.aE (vs:=[I (a:Int),Value.bool true]) hs rfl rfl fF ?_ dy (by rw [qg];simp<;>omega) CR);intro w hs;refine .nil (.region (.zn zg (nB (nT ?_))));have hR:=uu.Bd (Dn':=DA a (b+1)) hg yw (by rw [e4];exact Jt) KR;have hL:=uu.less hg yw (by rw [e4];exact Jt) KR;rw [Wf] at hR hL;exact .mk ⟨true,_,rfl,hR,⟨ai,fun _=>by omega⟩,by dsimp only;rw [fo ai,if_neg RP];exact Jt,hs⟩
        ·refine .skip (nB (nT ?_));exact .mk ⟨ag',s',rfl,uu.noB hT hC (fun x hx e1 e2 IF hc=>by
          have h2:=(hT.ok x hx).2.2.2.1;rw [e1,e2] at h2
          rcases xG Ar with h|h
          ·exact h IF
          ·exact h (by rw [h2];exact hc.2)),hW,Jt,hs⟩
     ·rintro fr w ⟨ag',s',rfl,uu,hW,-,hs⟩;exact nB (nT (.mk ⟨ag',s',rfl,uu.row hg,hW,hs⟩))
   ·rintro fr w ⟨ag',s',rfl,uu,hW,hs⟩;refine nB (nT ?_);exact ⟨(ag',s'),aH,⟨uu.all hg,hs⟩,by
     subst rO;dsimp only
     cases ag' with
     |true=>have:=hW.2 rfl;simp only [if_true];omega
     |false=>have:=hW.1;simp;omega⟩
  ·refine .exit (xT (xT (xB (nT (.af (.z zm (.z zm (.z zg (.zn zg (.ret (Fin.gU results308 rfl rfl ?_)))))))))));subst rO;obtain ⟨H2,g1,g2,hs⟩:=cU.dh (m:=2) (v:= .slice (some ⟨pU,0,none⟩) Ms.length Ms.length) (cs:=s.by_.map (o9 es)) (en:= .blk pU (kQ es s.by_)) (.full (by show (kQ es s.by_).length=_;rw [qg,hV.lb])) (fun c hc=>by simp only [List.mem_map] at hc;obtain ⟨x,_,rfl⟩:=hc;exact xx es x) ai (by rw [List.length_map,hV.lb];omega) hs .here;obtain ⟨H3,g3,g4,hs⟩:=cU.dR (v:= .slice (some ⟨nx,0,none⟩) Ms.length Ms.length) (xs:=s.cost) (.full (by simp [hV.lc])) (by rw [hV.lc];omega) hs .here;exact ⟨H3,_,_,s,g1.trans g3,rfl,g4,RS.mono g2 g3,hV,hs⟩
set_option maxHeartbeats 8000000 in
theorem yk{w:World}{n:Nat}{es:List Arc}(hs:St H w σ)(hM:RT H vm Ms)(Fg:Sq (n+1) Ms)(hw:RI H vw ws)(hl:ws.length=n+1)(hn:n+1≤65)(hz:bT ws (n+1)≤FF)
  (hT:Tab (n+1) (gt Ms) es) (OZ:∃p,ja es p) (F2:∀x∈es,-1400000≤x.c∧x.c≤1400000) (sZ:∀m,Dj es (qC ws (n+1)) (n+1) m→-BB≤m∧m≤BB):
  aaR 301 [vm,vw] w fun u w'=>∃H1 v b,HLe H H1∧u= .tuple #[I v,.bool b]∧((b=true∧Dj es (qC ws (n+1)) (n+1) v)∨(b=false∧pW es (qC ws (n+1)) (n+1)))∧St H1 w' σ:=by
 obtain ⟨am,cm,rfl⟩:=hM.shape;have KK:Ms.length=n+1:=Fg.1;rw [KK] at hM ⊢;have w5:=hT.Rx;have aaE:Ol es (n+1):=fun x hx=>by
  have h1:=hT.ok x hx;have h2:=(hT.at hx).2;have h3:=F2 x hx;exact ⟨h1.1,h1.2.1,h3.1,h3.2,ai,h1.2.2.1⟩
 have fL:∀x∈es,x.f<n+1∧x.t<n+1:=fun x hx=>by have:=aaE x hx;omega
 have V4:=Jx ws (n:=n+1) ai;have aaC:FF=3600000000000:=rfl;have hBB:BB=4608000000000000000:=rfl;have pJ:free=1000000000:=rfl;refine Cl.o func301 ntmps301 ag2 ?_;refine .af (.z zg (.zn zg (.af (.z zm (.o (.call call307 rfl (uL hs hw hl ai hz) ?_))))));rintro _ w ⟨uf,cap,sp,lf0,rfl,Td,Tc,hs⟩;refine .zn zg (.af (.z zm (.z (de au) (.o (.P6 (n+1) hs rfl rfl au typeInfo34 rfl aI gS ai fun ue w hs=>?_)))));refine .zn zg (.seq (.af (.z zm (.z (de au) (.zn zm (.for (N:=n+1) (J:=fun k fr w=>fr=[(7,.slice (some ⟨ue,0,none⟩) (n+1) (n+1)),(0,.slice am (n+1) cm),(6,.slice (some ⟨uf,0,none⟩) (n+1) cap)]∧∃bs:List Nat,bs.length=k∧St H w (.blk ue (bs.map (ptr (n+1))++List.replicate (n+1 - k) (.slice none 0 0))::(kY bs (Fu (fun _ _=>0) (n+1) k)++(.blk uf (Is lf0++sp)::σ)))) ai ?_ ?_ ?_))))))
 ·exact .mk ⟨rfl,[],rfl,hs⟩
 ·rintro k fr w hk ⟨rfl,bs,Bp,hs⟩;refine .block (.af (.z zm (.zn zg (.region (.z zm (.z zm (.z zm (.z (de au) (.o (.yu (n+1) hs rfl rfl ae kS rfl an dD ai fun Pz w hs=>?_))))))))));first|(refine .ixw hs au aI ?_;intro Oa o35 nj)|refine .z (zix au aI) ?_
  refine .o (.store hs rfl rfl aI ?_ dy (by simp [Bp];omega) (Ka Bp hk));intro w hs;refine .nil (nB (nT ?_));rw [zX (fun _=>0) (n+1) 0 (fun _ _=>rfl)] at hs;replace hs:=hs.Sf (by rw [Bp,zA]);rw [←DP (fun _ _=>0)] at hs;exact .mk ⟨rfl,bs++[Pz],by simp [Bp],hs⟩
 ·rintro fr w ⟨rfl,bs,Bp,hs⟩;rw [Nat.sub_self,List.replicate_zero,List.append_nil] at hs;have IE:=JI (fun _ _=>0) (n+1);have RN:A7 (n+1) es (List.replicate es.length 0) (gt (Fu (fun _ _=>0) (n+1) (n+1))):=by
   have h:=A7.zero (n+1) hT;exact ⟨h.len,fun x hx=>by rw [h.arc x hx,Ft _ (fL x hx).1 (fL x hx).2],fun a b ha hb _=>Ft _ ha hb⟩
  have Jv:=BC.start (es:=es) hz Td Tc OZ;refine nT (.block (.loop (fun _:List (List Int)×List Int×List Int=>⟨183,[],[(7,.slice (some ⟨ue,0,none⟩) (n+1) (n+1)),(0,.slice am (n+1) cm),(6,.slice (some ⟨uf,0,none⟩) (n+1) cap)]⟩) (fun p w=>(Sq (n+1) p.1∧A7 (n+1) es p.2.1 (gt p.1)∧BC (n+1) es (qC ws (n+1)) p.2.1 p.2.2)∧∃H1,HLe H H1∧St H1 w (.blk ue (bs.map (ptr (n+1)))::(kY bs p.1++(.blk uf (Is p.2.2++sp)::σ)))) (fun p=>(rem (n+1) p.2.2).toNat) (Fu (fun _ _=>0) (n+1) (n+1),List.replicate es.length 0,lf0) aH ⟨⟨IE,RN,Jv⟩,H,HLe.refl H,hs⟩ ?_));clear IE RN Jv Td Tc hs;rintro ⟨Fs,ts,lf⟩ w ⟨⟨Jm,hC,hI⟩,H1,az,hs⟩;dsimp only at Jm hC hI hs ⊢;obtain ⟨D,hg⟩:=GS ai hn aaE hI.lt.symm hI.fe;have A2:=Jm.1;have wq:=hI.ll;refine .block (.af (.z zm (.z zm (.z zm (.o (.call call308 rfl (yg (need:=lf) (spN:=sp) hs (hM.mono az) Fg .here Bp Jm (fun i hi=> .there (Mem.row ai ai)) (.there (Mem.lJ .here)) wq hT hC hg) ?_))))));rintro _ w ⟨H2,vd,vb,s,bg,rfl,QM,RR,hV,hs⟩;obtain ⟨ad,cd,rfl⟩:=RI.shape QM;obtain ⟨ab,cb,eb⟩:=RR.shape;rw [List.length_map] at eb;subst eb;have Dv:=hV.lc;have Dw:=hV.lb;have dq:=az.trans bg;refine .z zm (.z zex (.z zex (.z zg (.zn zg (.af (.zn zg (.af (.zn zg (.seq (.af (.z zm (.z (de ae) (.zn zm (.for (N:=n+1) (J:=fun k fr w=>∃to left,fr=[(11,I to),(12,.bool left),(44,.slice (some ⟨uf,0,none⟩) (n+1) cap),(7,.slice (some ⟨ue,0,none⟩) (n+1) (n+1)),(0,.slice am (n+1) cm),(6,.slice (some ⟨uf,0,none⟩) (n+1) cap),(9,.slice ad s.cost.length cd),(10,.slice ab s.by_.length cb)]∧Scan lf s.cost k to left∧St H2 w (.blk ue (bs.map (ptr (n+1)))::(kY bs Fs++(.blk uf (Is lf++sp)::σ)))) ai ?_ ?_ ?_))))))))))))))
  ·exact .mk ⟨-1,false,rfl,.start lf s.cost,hs⟩
  ·rintro k fr w hk ⟨to,left,rfl,Lm,hs⟩;have th:=Lm.lo;have hto2:=Lm.som;have yB:k<n+1:=hk;refine .block (.af (.z zm (.q hs (eS (k:=k) rfl rfl ae an rfl hk) (.q hs (eG rfl aj (hm:= .there (Mem.lJ .here)) (hv:=so (bu (l:=lf) (i:=k) ai) sp)) ?_))));refine .z zg (.zn zg (.af (.z zm (.z zm (.bif (t':=52) rfl (fun QE=>?_) (fun QE=>?_))))))
   ·refine .Fs 2 1 false (.z zpT (.zn zg (WE.sub (t:=⟨183,[],[(12,.bool (left||decide (0<gi lf k))),(13,I (k:Int)),(14,I (gi lf k)),(11,I to),(46,I (k:Int)),(45,I ((n+1:Nat):Int)),(44,.slice (some ⟨uf,0,none⟩) (n+1) cap),(7,.slice (some ⟨ue,0,none⟩) (n+1) (n+1)),(0,.slice am (n+1) cm),(6,.slice (some ⟨uf,0,none⟩) (n+1) cap),(9,.slice ad s.cost.length cd),(10,.slice ab s.by_.length cb)]⟩) ?_ (by first|exact .Uh rfl (by simp_all) aH|repeat (first|exact .nil rfl rfl|refine .cons rfl ?_)))));refine .cut (fun fs w=>∃p,kG fs ⟨183,[],[(79,.bool p),(12,.bool (left||decide (0<gi lf k))),(13,I (k:Int)),(11,I to),(46,I (k:Int)),(45,I ((n+1:Nat):Int)),(44,.slice (some ⟨uf,0,none⟩) (n+1) cap),(7,.slice (some ⟨ue,0,none⟩) (n+1) (n+1)),(0,.slice am (n+1) cm),(6,.slice (some ⟨uf,0,none⟩) (n+1) cap),(9,.slice ad s.cost.length cd),(10,.slice ab s.by_.length cb)]⟩∧(p=true→0<gi lf k∧gi s.cost k≠free)∧(p=false→¬0<gi lf k∨gi s.cost k=free∨0≤to)∧St H2 w (.blk ue (bs.map (ptr (n+1)))::(kY bs Fs++(.blk uf (Is lf++sp)::σ)))) ?_ ?_
    ·refine .draw mix rfl hs fun w hs=>?_
     refine .zw 0 rfl zm ?_;refine .z 1 rfl kU ?_;refine .z 2 rfl zm ?_;refine .iz (t':=58) rfl (fun yD=>?_) (fun yD=>?_)
     ·refine .zw 3 rfl zm ?_;refine .z 4 rfl zm ?_;refine .ixX (enc:=fun x=>[I x]) (i:=5) hs rfl aA (.some rfl rfl) QM rfl rfl ae an (bu (l:=s.cost) (i:=k) ai) rfl ?_;intro Px o61 tU;replace tU:=bD.one tU;refine .r (i:=6) hs rfl aA (.some rfl rfl) (aC rfl aj tU) ?_;refine .zw 7 rfl fV ?_;refine .z 8 rfl zpT ?_;refine .z 9 rfl zm ?_;refine .EX (t':=65) rfl (fun IT=>?_) (fun IT=>?_)
      ·refine .zw 10 rfl zm ?_;refine .z 11 rfl fN ?_;refine .z 12 rfl zm ?_;refine .iz (t':=68) rfl (fun Le=>?_) (fun Le=>?_)
       ·refine .F 13 rfl (.F 14 rfl (.F 15 rfl (.F 16 rfl (.F 17 rfl (.F 18 rfl (.F 19 rfl (.F 20 rfl (.F 21 rfl (.zw 22 rfl zpT ?_)))))))));refine .z 23 rfl zpT ?_;refine .DT hs ?_;exact nT ⟨_,aH,by
         intro hp;first
          |(cases hp;done)
          |exact ⟨by assumption,by assumption⟩,by
         intro hp;first
          |(cases hp;done)
          |exact .inl di
          |exact .inr (.inl gy)
          |exact .inr (.inr ai),hs⟩
       ·refine .zw 13 rfl zm ?_;refine .z 14 rfl zm ?_;refine .ixX (enc:=fun x=>[I x]) (i:=15) hs rfl aA (.some rfl rfl) QM rfl rfl ae an (bu (l:=s.cost) (i:=k) ai) rfl ?_;intro Vp o71 w8;replace w8:=bD.one w8;refine .r (i:=16) hs rfl aA (.some rfl rfl) (aC rfl aj w8) ?_;refine .zw 17 rfl zm ?_;refine .z 18 rfl zm ?_;refine .ixX (enc:=fun x=>[I x]) (i:=19) hs rfl aA (.some rfl rfl) QM rfl rfl ae an (bu (l:=s.cost) (i:=to.toNat) ai) ai ?_;intro Yp o75 CU;replace CU:=bD.one CU;refine .r (i:=20) hs rfl aA (.some rfl rfl) (aC rfl aj CU) ?_;refine .zw 21 rfl fN ?_;refine .z 22 rfl zpF ?_;refine .z 23 rfl zpT ?_;refine .DT hs ?_;exact nT ⟨_,aH,by
         intro hp;first
          |(cases hp;done)
          |exact ⟨by assumption,by assumption⟩,by
         intro hp;first
          |(cases hp;done)
          |exact .inl di
          |exact .inr (.inl gy)
          |exact .inr (.inr ai),hs⟩
      ·refine .F 10 rfl (.F 11 rfl ?_);refine .F 12 rfl (.F 13 rfl (.F 14 rfl (.F 15 rfl (.F 16 rfl (.F 17 rfl (.F 18 rfl (.F 19 rfl (.F 20 rfl (.F 21 rfl (.F 22 rfl (.zw 23 rfl zpF (.DT hs ?_))))))))))));exact nT ⟨_,aH,by
        intro hp;first
         |(cases hp;done)
         |exact ⟨by assumption,by assumption⟩,by
        intro hp;first
         |(cases hp;done)
         |exact .inl di
         |exact .inr (.inl gy)
         |exact .inr (.inr ai),hs⟩
     ·refine .F 3 rfl (.F 4 rfl (.F 5 rfl (.F 6 rfl (.F 7 rfl (.zw 8 rfl zpF ?_)))));refine .z 9 rfl zm ?_;refine .F 10 rfl (.F 11 rfl ?_);refine .F 12 rfl (.F 13 rfl (.F 14 rfl (.F 15 rfl (.F 16 rfl (.F 17 rfl (.F 18 rfl (.F 19 rfl (.F 20 rfl (.F 21 rfl (.F 22 rfl (.zw 23 rfl zpF (.DT hs ?_))))))))))));exact nT ⟨_,aH,by
       intro hp;first
        |(cases hp;done)
        |exact ⟨by assumption,by assumption⟩,by
       intro hp;first
        |(cases hp;done)
        |exact .inl di
        |exact .inr (.inl gy)
        |exact .inr (.inr ai),hs⟩
    ·rintro fs w ⟨p,fM,BZ,xG,hs⟩;refine WE.sub ?_ fM;refine (.cond rfl (fun vA=>?_) (fun vA=>?_))
     ·refine .region (.z zm (.zn zg (nB (nT ?_))));obtain ⟨g1,g2⟩:=BZ vA;exact .mk ⟨(k:Int),_,rfl,Lm.take g1 g2,hs⟩
     ·exact .skip (nB (nT (.mk ⟨to,_,rfl,Lm.skip (xG vA),hs⟩)))
   ·refine .T (.z zm (.T (.z kU (.z zpF (.zn zg (WE.sub (t:=⟨183,[],[(12,.bool (left||decide (0<gi lf k))),(13,I (k:Int)),(14,I (gi lf k)),(11,I to),(46,I (k:Int)),(45,I ((n+1:Nat):Int)),(44,.slice (some ⟨uf,0,none⟩) (n+1) cap),(7,.slice (some ⟨ue,0,none⟩) (n+1) (n+1)),(0,.slice am (n+1) cm),(6,.slice (some ⟨uf,0,none⟩) (n+1) cap),(9,.slice ad s.cost.length cd),(10,.slice ab s.by_.length cb)]⟩) ?_ (by first|exact .Uh rfl (by simp_all) aH|repeat (first|exact .nil rfl rfl|refine .cons rfl ?_))))))));refine .cut (fun fs w=>∃p,kG fs ⟨183,[],[(79,.bool p),(12,.bool (left||decide (0<gi lf k))),(13,I (k:Int)),(11,I to),(46,I (k:Int)),(45,I ((n+1:Nat):Int)),(44,.slice (some ⟨uf,0,none⟩) (n+1) cap),(7,.slice (some ⟨ue,0,none⟩) (n+1) (n+1)),(0,.slice am (n+1) cm),(6,.slice (some ⟨uf,0,none⟩) (n+1) cap),(9,.slice ad s.cost.length cd),(10,.slice ab s.by_.length cb)]⟩∧(p=true→0<gi lf k∧gi s.cost k≠free)∧(p=false→¬0<gi lf k∨gi s.cost k=free∨0≤to)∧St H2 w (.blk ue (bs.map (ptr (n+1)))::(kY bs Fs++(.blk uf (Is lf++sp)::σ)))) ?_ ?_
    ·refine .draw mix rfl hs fun w hs=>?_
     refine .zw 0 rfl zm ?_;refine .z 1 rfl kU ?_;refine .z 2 rfl zm ?_;refine .iz (t':=58) rfl (fun yD=>?_) (fun yD=>?_)
     ·refine .zw 3 rfl zm ?_;refine .z 4 rfl zm ?_;refine .ixX (enc:=fun x=>[I x]) (i:=5) hs rfl aA (.some rfl rfl) QM rfl rfl ae an (bu (l:=s.cost) (i:=k) ai) rfl ?_;intro Px o61 tU;replace tU:=bD.one tU;refine .r (i:=6) hs rfl aA (.some rfl rfl) (aC rfl aj tU) ?_;refine .zw 7 rfl fV ?_;refine .z 8 rfl zpT ?_;refine .z 9 rfl zm ?_;refine .EX (t':=65) rfl (fun IT=>?_) (fun IT=>?_)
      ·refine .zw 10 rfl zm ?_;refine .z 11 rfl fN ?_;refine .z 12 rfl zm ?_;refine .iz (t':=68) rfl (fun Le=>?_) (fun Le=>?_)
       ·refine .F 13 rfl (.F 14 rfl (.F 15 rfl (.F 16 rfl (.F 17 rfl (.F 18 rfl (.F 19 rfl (.F 20 rfl (.F 21 rfl (.zw 22 rfl zpT ?_)))))))));refine .z 23 rfl zpT ?_;refine .DT hs ?_;exact nT ⟨_,aH,by
         intro hp;first
          |(cases hp;done)
          |exact ⟨by assumption,by assumption⟩,by
         intro hp;first
          |(cases hp;done)
          |exact .inl di
          |exact .inr (.inl gy)
          |exact .inr (.inr ai),hs⟩
       ·refine .zw 13 rfl zm ?_;refine .z 14 rfl zm ?_;refine .ixX (enc:=fun x=>[I x]) (i:=15) hs rfl aA (.some rfl rfl) QM rfl rfl ae an (bu (l:=s.cost) (i:=k) ai) rfl ?_;intro Vp o71 w8;replace w8:=bD.one w8;refine .r (i:=16) hs rfl aA (.some rfl rfl) (aC rfl aj w8) ?_;refine .zw 17 rfl zm ?_;refine .z 18 rfl zm ?_;refine .ixX (enc:=fun x=>[I x]) (i:=19) hs rfl aA (.some rfl rfl) QM rfl rfl ae an (bu (l:=s.cost) (i:=to.toNat) ai) ai ?_;intro Yp o75 CU;replace CU:=bD.one CU;refine .r (i:=20) hs rfl aA (.some rfl rfl) (aC rfl aj CU) ?_;refine .zw 21 rfl fN ?_;refine .z 22 rfl zpF ?_;refine .z 23 rfl zpT ?_;refine .DT hs ?_;exact nT ⟨_,aH,by
         intro hp;first
          |(cases hp;done)
          |exact ⟨by assumption,by assumption⟩,by
         intro hp;first
          |(cases hp;done)
          |exact .inl di
          |exact .inr (.inl gy)
          |exact .inr (.inr ai),hs⟩
      ·refine .F 10 rfl (.F 11 rfl ?_);refine .F 12 rfl (.F 13 rfl (.F 14 rfl (.F 15 rfl (.F 16 rfl (.F 17 rfl (.F 18 rfl (.F 19 rfl (.F 20 rfl (.F 21 rfl (.F 22 rfl (.zw 23 rfl zpF (.DT hs ?_))))))))))));exact nT ⟨_,aH,by
        intro hp;first
         |(cases hp;done)
         |exact ⟨by assumption,by assumption⟩,by
        intro hp;first
         |(cases hp;done)
         |exact .inl di
         |exact .inr (.inl gy)
         |exact .inr (.inr ai),hs⟩
     ·refine .F 3 rfl (.F 4 rfl (.F 5 rfl (.F 6 rfl (.F 7 rfl (.zw 8 rfl zpF ?_)))));refine .z 9 rfl zm ?_;refine .F 10 rfl (.F 11 rfl ?_);refine .F 12 rfl (.F 13 rfl (.F 14 rfl (.F 15 rfl (.F 16 rfl (.F 17 rfl (.F 18 rfl (.F 19 rfl (.F 20 rfl (.F 21 rfl (.F 22 rfl (.zw 23 rfl zpF (.DT hs ?_))))))))))));exact nT ⟨_,aH,by
       intro hp;first
        |(cases hp;done)
        |exact ⟨by assumption,by assumption⟩,by
       intro hp;first
        |(cases hp;done)
        |exact .inl di
        |exact .inr (.inl gy)
        |exact .inr (.inr ai),hs⟩
    ·rintro fs w ⟨p,fM,BZ,xG,hs⟩;refine WE.sub ?_ fM;refine (.cond rfl (fun vA=>?_) (fun vA=>?_))
     ·refine .region (.z zm (.zn zg (nB (nT ?_))));obtain ⟨g1,g2⟩:=BZ vA;exact .mk ⟨(k:Int),_,rfl,Lm.take g1 g2,hs⟩
     ·exact .skip (nB (nT (.mk ⟨to,_,rfl,Lm.skip (xG vA),hs⟩)))
  ·rintro fr w ⟨to,left,rfl,Lm,hs⟩;refine nT (.seq (.af (.z zm (.zn fN (.bh rfl (fun Xq=>?_) (fun Xq=>?_))))))
   ·refine .af (.z zm (.z zm (.o (.call call309 rfl (zT hs (hM.mono dq) Fg ai .here Bp Jm (fun i hi=> .there (Mem.row ai ai))) ?_))));rintro _ w ⟨rfl,hs⟩;refine .z zm (.z fU (.z zg (.zn zg (.ret (rT (rB (rT (rB (Fin.gU results301 rfl rfl ?_)))))))));rw [←NW hT hC hI.nn]
    cases left with
    |false=>
     have eE:∀v<n+1,gi lf v≤0:=fun v hv=>Int.not_lt.1 fun h=>by have:=Lm.left_.2 ⟨v,hv,h⟩;cases this
     have aZ:=hI.ok fL V4 eE;obtain ⟨q,hqf⟩:=aZ.fe;have hO:=(C3 fL aZ.lt (fun i hi=>(aZ.nn i hi).1) aZ.full hqf).1;have hb:=sZ _ hO;rw [nM ai];exact ⟨H2,_,true,dq,rfl,.inl ⟨rfl,hO⟩,hs.tail.lJ.tail⟩
    |true=>
     obtain ⟨v,hv,hp⟩:=Lm.left_.1 rfl;have hf:=Lm.non ai v hv hp;have hO:=hI.open fL (R:=fun v=>gi s.cost v<free) (fun v hv hl=>by have:=hV.src v hv hl;omega) (hV.closed hg) hv (by rw [hf];omega) hp;exact ⟨H2,_,false,dq,rfl,.inr ⟨rfl,hO⟩,hs.tail.lJ.tail⟩
   ·refine .skip (nT (.af ?_));obtain ⟨t,rfl⟩:=Int.eq_ofNat_of_zero_le (show 0≤to by omega);obtain ⟨ht,Zr,htf⟩:=Lm.som ai;rw [Int.toNat_natCast] at ht Zr htf;have xC:gi s.cost t<free:=by have:=hV.top t ht;omega
    obtain ⟨kk,cc,u,hB,hu,Ep,Fi,Et,Qa⟩:=hV.back hg ht xC Zr;have hW:=Qa _ rfl;have Zu:=hI.sg;refine .z zm (.z zm (.q hs (eS (k:=t) rfl rfl ae an rfl ht) (.q hs (eG rfl aj (hm:= .there (Mem.lJ .here)) (hv:=so (bu (l:=lf) (i:=t) ai) sp)) ?_)));refine .zn zg (.af (.z zm (.zn zg (.seq (.block (.loop (fun p:Nat×Nat=>⟨183,[],[(16,I (p.2:Int)),(15,I (least es ts (gi lf t) (kx s.by_ t p.1))),(11,I (t:Int)),(7,.slice (some ⟨ue,0,none⟩) (n+1) (n+1)),(0,.slice am (n+1) cm),(6,.slice (some ⟨uf,0,none⟩) (n+1) cap),(9,.slice ad s.cost.length cd),(10,.slice ab s.by_.length cb)]⟩) (fun p w=>AtW s.by_ t kk u p.1 p.2∧(p.2<n+1∧gi s.cost p.2<free)∧St H2 w (.blk ue (bs.map (ptr (n+1)))::(kY bs Fs++(.blk uf (Is lf++sp)::σ)))) (fun p=>kk - p.1) (0,t) aH ⟨.start hB,⟨ht,xC⟩,hs⟩ ?_))))));rintro ⟨i,v⟩ w ⟨hA,⟨hv,Zp⟩,hs⟩;dsimp only at hA hv Zp ⊢;have Xt:=hV.by1 v hv Zp;refine .cut (fun fs w=>kG fs ⟨183,[],[(16,I (v:Int)),(15,I (least es ts (gi lf t) (kx s.by_ t i))),(11,I (t:Int)),(7,.slice (some ⟨ue,0,none⟩) (n+1) (n+1)),(0,.slice am (n+1) cm),(6,.slice (some ⟨uf,0,none⟩) (n+1) cap),(9,.slice ad s.cost.length cd),(10,.slice ab s.by_.length cb)]⟩∧0≤(ga s.by_ v).l∧St H2 w (.blk ue (bs.map (ptr (n+1)))::(kY bs Fs++(.blk uf (Is lf++sp)::σ)))) ?_ ?_
    ·refine .af (.z zm (.z zm (.q hs (eS (k:=v) rfl rfl ae an rfl hv) (.q hs (eG rfl aj (hm:= .there (Mem.lJ .here)) (hv:=so (bu (l:=lf) (i:=v) ai) sp)) ?_))));refine .z xv (.z zm (.iz (t':=99) rfl (fun Xv=>?_) (fun Xv=>?_)))
     ·refine .Fs 6 5 false (.zn zpT (.cT (.skip (nT ?_))));exact ⟨aH,by
       rcases Xt with ⟨_,h,_⟩|h
       ·omega
       ·exact h.1,hs⟩
     ·refine .T (.z zm (.T (.z zm (.T (.ixX (enc:=o9 es) hs RR rfl rfl eY fF (AA (l:=s.by_) (i:=v) ai) rfl ?_)))));intro b102 o102 Hn;rw [uE] at Hn;refine .T (.z (zfa dI) (.T (.q hs (aC rfl aj (Hn.get 0 rfl)) (.T (.z xv (.zn zpF (.bh rfl (fun tk=>?_) (fun tk=>?_))))))))
      ·exact .skip (nT ⟨aH,Mt tk,hs⟩)
      ·refine .exit (xT (xT (xB (nT (.af ?_)))));obtain ⟨ei,ev⟩:=hA.stop (JK tk);subst ei;subst ev;obtain ⟨m0,m1,m2,m3⟩:=yV hI.lt.symm w5 hW;have Zs:=Zu v hv;have L4:=Zu t ht;have hmu:min (least es ts (gi lf t) (kx s.by_ t i)) (-gi lf v)=u9 es ts lf (kx s.by_ t i).reverse v t:=by
        unfold u9;rw [Ks,←Ea,Int.min_comm]
       have hsend:=hI.send w5 hW (by rw [List.length_reverse,jz];omega);have Eo:∀x∈kx s.by_ t i,x∈dz es ts:=fun x hx=>hW.mem x (List.mem_reverse.2 hx)
       rw [Ip (fun x hx=>(lW hI.lt.symm w5 (Eo x hx)).2.1)] at hsend;generalize hm:u9 es ts lf (kx s.by_ t i).reverse v t=m at*;have hvt:v≠t:=fun e=>by have:=hW.lu;rw [e] at this;omega
       refine .z zm (.z zm (.z zm (.q hs (eS (k:=v) rfl rfl ae an rfl hv) (.q hs (eG rfl aj (hm:= .there (Mem.lJ .here)) (hv:=so (bu (l:=lf) (i:=v) ai) sp)) ?_))));refine .z Fm (.z Dq ?_);rw [hmu];refine .zn zg (.seq (.af (.z zm (.zn zg (.block (.loop (fun p:Nat×Nat×List (List Int)=>⟨183,[],[(18,I (p.2.1:Int)),(16,I (v:Int)),(15,I m),(11,I (t:Int)),(7,.slice (some ⟨ue,0,none⟩) (n+1) (n+1)),(0,.slice am (n+1) cm),(6,.slice (some ⟨uf,0,none⟩) (n+1) cap),(9,.slice ad s.cost.length cd),(10,.slice ab s.by_.length cb)]⟩) (fun p w=>AtW s.by_ t i v p.1 p.2.1∧(p.2.1<n+1∧gi s.cost p.2.1<free)∧(Sq (n+1) p.2.2∧A7 (n+1) es (gC es m ts (kx s.by_ t p.1)) (gt p.2.2))∧St H2 w (.blk ue (bs.map (ptr (n+1)))::(kY bs p.2.2++(.blk uf (Is lf++sp)::σ)))) (fun p=>i - p.1) (0,t,Fs) aH ⟨.start hB,⟨ht,xC⟩,⟨Jm,hC⟩,hs⟩ ?_))))));clear hA Xt;rintro ⟨j,y,Fs'⟩ w ⟨hA,⟨hy,Zk⟩,⟨CS,RX⟩,hs⟩;dsimp only at hA hy Zk CS RX hs ⊢;have hfl':=CS.1;refine .seq (.af (.z zm (.z zm (.zn fV (.dK rfl (fun Ar=>?_) (fun Ar=>?_))))))
       ·refine .skip (nT (.seq (.block (.af ?_))));have L6:=hA.ne ai;obtain ⟨W0,Ub,SP⟩:=hA.next L6 hu;obtain ⟨yw,Fe,SM⟩:ga s.by_ y∈dz es ts∧(ga s.by_ y).t=y∧gi s.cost (ga s.by_ y).f<free:=by
         rcases hV.by1 y hy Zk with ⟨h,_⟩|⟨_,h1,h2,h3,_⟩
         ·omega
         ·exact ⟨h1,h2,h3⟩
        have Hf:=(hg.ok _ yw).1;have OO:=zG L6;have Ng:(ga s.by_ y).l.toNat<ts.length:=(lW hI.lt.symm w5 yw).2.1;have hpb:=D5 (es:=es) (ts:=ts) (p:=kx s.by_ t j) (m:=m) ai ai (by rw [jz];omega) (fun x hx=>by
         have h1:=rh (A:=fun v=>v<n+1∧gi s.cost v<free) (B:=fun x=>x∈dz es ts) (fun v hv hl=>by
          rcases hV.by1 v hv.1 hv.2 with ⟨h,_⟩|⟨_,h1,h2,h3,_⟩
          ·omega
          ·exact ⟨h1,(hg.ok _ h1).1,h3⟩) hA.bk.choose_spec ⟨ht,xC⟩ x hx
         exact (lW hI.lt.symm w5 h1).2.1) (ga s.by_ y).l.toNat
        have Hi:=hI.nn (ga s.by_ y).l.toNat (by rw [←hI.lt];exact Ng);have RB:=hI.tb (ga s.by_ y).l.toNat (by rw [←hI.lt];exact Ng);have hrm:0≤rem (n+1) lf:=dx fun v _=>by omega
        generalize Qn:ga s.by_ y=x at*;refine .z zm (.z zm (.ixX (enc:=o9 es) hs RR rfl rfl eY fF (AA (l:=s.by_) (i:=y) ai) rfl ?_));intro b143 o143 O5;rw [Qn,uE] at O5;refine .q hs (bQ (vs:=[I (zH x),.bool (Bb es x)]) rfl isAgg337 fF O5) (.o (.alloc hs zeroValue337 rfl fun pU w hs=>?_));refine .o (.aE (vs:=[I (zH x),.bool (Bb es x)]) hs rfl rfl fF fun w hs=>?_);refine .nil (.af (.z (zfa lI) ?_));first|refine .q hs (eG rfl Y9 (hm:=by repeat (first|exact .here|assumption|exact Mem.row ai ai|refine .there ?_|refine Mem.lJ ?_)) (hv:=by first|rfl|exact dF ai|exact im di ai ai|exact fQ gy)) ?_|refine .q hs (aC rfl Y9 di) ?_
        refine .nil (.cond rfl (fun K7=>?_) (fun K7=>?_))
        ·refine .draw mix rfl hs fun w hs=>?_
         have L5:=JL K7;obtain ⟨F2,z,Zj,US⟩:=hC.back hT yw L5;have W4:gt Fs' y x.f=gi (gC es m ts (kx s.by_ t j)) x.l.toNat:=by
          have:=RX.arc z Zj;rw [US] at Fe ⊢;rw [←Fe];exact this.symm
         have Qi:=(RX.push hT (y:=x) (.inr ⟨z,Zj,US⟩) m).2 L5;rw [Fe] at Qi;rw [←pZ,←SP] at Qi;refine .zw 0 rfl zm ?_;refine .z 1 rfl zm ?_;refine .zw 2 rfl (eS (k:=y) rfl rfl au aI rfl hy) ?_;first|refine .load (i:=3) hs rfl aA .none rfl aq ?_ (by repeat (first|exact .here|assumption|exact Mem.row ai ai|refine .there ?_|refine Mem.lJ ?_)) (by first|rfl|exact dF ai|exact im di ai ai|exact fQ gy)|refine .r (i:=3) hs rfl aA .none (aC rfl aq di) ?_
         refine .zw 4 rfl (zfa dI) ?_;first|refine .load (i:=5) hs rfl aA .none rfl aj ?_ (by repeat (first|exact .here|assumption|exact Mem.row ai ai|refine .there ?_|refine Mem.lJ ?_)) (by first|rfl|exact dF ai|exact im di ai ai|exact fQ gy)|refine .r (i:=5) hs rfl aA .none (aC rfl aj di) ?_
         rw [OO] at hs ⊢;refine .zw 6 rfl (eS (k:=x.f) rfl rfl ae an rfl Hf) ?_;first|refine .load (i:=7) hs rfl aA .none rfl aj ?_ (by repeat (first|exact .here|assumption|exact Mem.row ai ai|refine .there ?_|refine Mem.lJ ?_)) (by first|rfl|exact dF ai|exact im di ai ai|exact fQ gy)|refine .r (i:=7) hs rfl aA .none (aC rfl aj di) ?_
         refine .zw 8 rfl zm ?_;refine .z 9 rfl gx ?_;refine .zw 10 rfl (eS (k:=x.f) rfl rfl ae an rfl Hf) (.ET 11 hs ?_);refine .store hs rfl rfl an ?_ (.there (.there (Upd.row _ ai ai))) (AI (by rw [CS.2 _ hy];exact Hf)) (wc _ _ _);intro w hs;refine .go (.DT hs (nB (nT (.region (.z zm (.z zm (.ixX (enc:=o9 es) hs RR rfl rfl eY fF (AA (l:=s.by_) (i:=y) ai) rfl ?_)))))));intro YB o138 Ez;rw [Qn,uE] at Ez;refine .z (zfa dI) (.q hs (aC rfl aj (Ez.get 0 rfl)) ?_);rw [OO];exact .zn zg (nT ⟨(j+1,x.f,_),aH,⟨Ub,⟨Hf,SM⟩,⟨CS.set hy _,by rw [Hp CS hy Hf];exact Qi⟩,hs.tail⟩,by dsimp only;omega⟩)
        ·refine .region ?_;have L5:=JM L6 (by simpa using K7);have Zl:=hC.Yl hT yw L5;have W4:gt Fs' x.f y=gi (gC es m ts (kx s.by_ t j)) x.l.toNat:=by
          have:=RX.arc x Zl;rw [Fe] at this;exact this.symm
         have Qi:=(RX.push hT (y:=x) (.inl Zl) m).1 L5;rw [Fe] at Qi;rw [←pZ,←SP] at Qi;refine .z zm (.z (zfa dI) ?_);first|refine .q hs (eG rfl aj (hm:=by repeat (first|exact .here|assumption|exact Mem.row ai ai|refine .there ?_|refine Mem.lJ ?_)) (hv:=by first|rfl|exact dF ai|exact im di ai ai|exact fQ gy)) ?_|refine .q hs (aC rfl aj di) ?_
         rw [OO];refine .q hs (eS (k:=x.f) rfl rfl au aI rfl Hf) ?_;first|refine .q hs (eG rfl aq (hm:=by repeat (first|exact .here|assumption|exact Mem.row ai ai|refine .there ?_|refine Mem.lJ ?_)) (hv:=by first|rfl|exact dF ai|exact im di ai ai|exact fQ gy)) ?_|refine .q hs (aC rfl aq di) ?_
         refine .z zm (.q hs (eS (k:=y) rfl rfl ae an rfl hy) ?_);first|refine .q hs (eG rfl aj (hm:=by repeat (first|exact .here|assumption|exact Mem.row ai ai|refine .there ?_|refine Mem.lJ ?_)) (hv:=by first|rfl|exact dF ai|exact im di ai ai|exact fQ gy)) ?_|refine .q hs (aC rfl aj di) ?_
         refine .z zm (.z cH (.q hs (eS (k:=y) rfl rfl ae an rfl hy) (.o (.store hs rfl rfl an ?_ (.there (.there (Upd.row _ ai ai))) (AI (by rw [CS.2 _ Hf];exact hy)) (wc _ _ _)))));intro w hs;refine .nil (nB (nT (.region (.z zm (.z zm (.ixX (enc:=o9 es) hs RR rfl rfl eY fF (AA (l:=s.by_) (i:=y) ai) rfl ?_))))));intro YB o138 Ez;rw [Qn,uE] at Ez;refine .z (zfa dI) (.q hs (aC rfl aj (Ez.get 0 rfl)) ?_);rw [OO];exact .zn zg (nT ⟨(j+1,x.f,_),aH,⟨Ub,⟨Hf,SM⟩,⟨CS.set Hf _,by rw [Hp CS Hf hy];exact Qi⟩,hs.tail⟩,by dsimp only;omega⟩)
       ·refine .exit (xT (xT (xB (nT (.af ?_)))));have hyv:y=v:=by omega
        subst hyv;obtain ⟨ej,-⟩:=hA.stop hu;subst ej;refine .z zm (.z zm (.q hs (eS (k:=y) rfl rfl ae an rfl hv) (.q hs (eG rfl aj (hm:= .there (Mem.lJ .here)) (hv:=so (bu (l:=lf) (i:=y) ai) sp)) ?_)));refine .z zm (.z cH (.q hs (eS (k:=y) rfl rfl ae an rfl hv) (.o (.store hs rfl rfl an ?_ (.there (Upd.lJ .here)) (by simp;omega) (GP ai _ sp)))));intro w hs;refine .nil (.region (.z zm (.z zm (.q hs (eS (k:=t) rfl rfl ae an rfl ht) ?_))));have RJ:gi (lf.set y (gi lf y+m)) t=gi lf t:=by rw [fo ai,if_neg (Ne.symm hvt)]
        refine .q hs (eG rfl aj (hm:= .there (Mem.lJ .here)) (hv:=so (bu (l:=lf.set y (gi lf y+m)) (i:=t) (by rw [List.length_set];omega)) sp)) ?_;refine .z zm (.z gx (.q hs (eS (k:=t) rfl rfl ae an rfl ht) (.o (.store hs rfl rfl an ?_ (.there (Upd.lJ .here)) (by simp;omega) (GP (by rw [List.length_set];omega) _ sp)))));intro w hs;refine .nil (nB (nT ?_));have hrm:0≤rem (n+1) (D8 lf m y t):=dx fun v _=>by omega
        exact ⟨(Fs',gC es m ts (kx s.by_ t j),D8 lf m y t),aH,⟨⟨CS,RX,hsend.1⟩,H2,dq,hs⟩,by dsimp only;have:=hsend.2;omega⟩
    ·rintro fs w ⟨fM,L6,hs⟩;refine WE.sub ?_ fM;obtain ⟨W0,Ub,SP⟩:=hA.next L6 hu;obtain ⟨yw,Fe,SM⟩:ga s.by_ v∈dz es ts∧(ga s.by_ v).t=v∧gi s.cost (ga s.by_ v).f<free:=by
      rcases Xt with ⟨h,_⟩|⟨_,h1,h2,h3,_⟩
      ·omega
      ·exact ⟨h1,h2,h3⟩
     have Hf:=(hg.ok _ yw).1;have OO:=zG L6;generalize Qn:ga s.by_ v=x at*;refine .block (.af (.z zm (.z zm (.ixX (enc:=o9 es) hs RR rfl rfl eY fF (AA (l:=s.by_) (i:=v) ai) rfl ?_))));intro YM o109 EA;rw [Qn,uE] at EA;refine .q hs (bQ (vs:=[I (zH x),.bool (Bb es x)]) rfl isAgg337 fF EA) (.o (.alloc hs zeroValue337 rfl fun AL w hs=>?_));refine .o (.aE (vs:=[I (zH x),.bool (Bb es x)]) hs rfl rfl fF fun w hs=>?_);refine .nil (.seq (.af (.z (zfa lI) ?_)));first|refine .q hs (eG rfl Y9 (hm:=by repeat (first|exact .here|assumption|exact Mem.row ai ai|refine .there ?_|refine Mem.lJ ?_)) (hv:=by first|rfl|exact dF ai|exact im di ai ai|exact fQ gy)) ?_|refine .q hs (aC rfl Y9 di) ?_
     refine .nil (.cond rfl (fun As=>?_) (fun As=>?_))
     ·refine .draw mix rfl hs fun w hs=>?_
      refine .zw 0 rfl zm ?_;refine .z 1 rfl zm ?_;refine .z 2 rfl zm ?_;refine .zw 3 rfl (eS (k:=v) rfl rfl au aI rfl hv) ?_;first|refine .load (i:=4) hs rfl aA .none rfl aq ?_ (by repeat (first|exact .here|assumption|exact Mem.row ai ai|refine .there ?_|refine Mem.lJ ?_)) (by first|rfl|exact dF ai|exact im di ai ai|exact fQ gy)|refine .r (i:=4) hs rfl aA .none (aC rfl aq di) ?_
      refine .zw 5 rfl (zfa dI) ?_;first|refine .load (i:=6) hs rfl aA .none rfl aj ?_ (by repeat (first|exact .here|assumption|exact Mem.row ai ai|refine .there ?_|refine Mem.lJ ?_)) (by first|rfl|exact dF ai|exact im di ai ai|exact fQ gy)|refine .r (i:=6) hs rfl aA .none (aC rfl aj di) ?_
      rw [OO] at hs ⊢;refine .zw 7 rfl (eS (k:=x.f) rfl rfl ae an rfl Hf) ?_;first|refine .load (i:=8) hs rfl aA .none rfl aj ?_ (by repeat (first|exact .here|assumption|exact Mem.row ai ai|refine .there ?_|refine Mem.lJ ?_)) (by first|rfl|exact dF ai|exact im di ai ai|exact fQ gy)|refine .r (i:=8) hs rfl aA .none (aC rfl aj di) ?_
      refine .zw 9 rfl Dq ?_;refine .z 10 rfl zg ?_;refine .DT hs (nT (.region (.z (zfa dI) ?_)));first|refine .q hs (eG rfl aj (hm:=by repeat (first|exact .here|assumption|exact Mem.row ai ai|refine .there ?_|refine Mem.lJ ?_)) (hv:=by first|rfl|exact dF ai|exact im di ai ai|exact fQ gy)) ?_|refine .q hs (aC rfl aj di) ?_
      try rw [OO]
      refine .zn zg (nB (nT ?_));have L5:=JL As;have F2:=(hC.back hT yw L5).1;rw [Fe] at F2;exact ⟨(i+1,x.f),.cons rfl (.cD rfl (by dsimp only;rw [SP,pE,if_neg L5,F2]) aH),⟨Ub,⟨Hf,SM⟩,hs.tail⟩,by dsimp only;omega⟩
     ·refine .skip (nT (.region (.z (zfa dI) ?_)));first|refine .q hs (eG rfl aj (hm:=by repeat (first|exact .here|assumption|exact Mem.row ai ai|refine .there ?_|refine Mem.lJ ?_)) (hv:=by first|rfl|exact dF ai|exact im di ai ai|exact fQ gy)) ?_|refine .q hs (aC rfl aj di) ?_
      try rw [OO]
      refine .zn zg (nB (nT ?_));have L5:=JM L6 (by simpa using As);exact ⟨(i+1,x.f),.cons rfl (.cD rfl (by dsimp only;rw [SP,pE,if_pos L5]) aH),⟨Ub,⟨Hf,SM⟩,hs.tail⟩,by dsimp only;omega⟩
theorem kA{p:Prop}[Decidable p]:(!decide p)=true↔¬p:=by simp
theorem jG{p:Prop}[Decidable p]:(!decide p)=false↔p:=by simp
theorem gE{w:World}(hs:St H w σ):aaR 253 [I a0,I a1,I a2] w fun v w'=>v= .bool (decide (a1≤a0∧a0≤a2))∧St H w' σ:=by
 refine Cl.o func253 ntmps253 ag3 ?_;refine .af (.zn zg (.af (.z zm (.z zm (.z oY (.z zm (.iz (t':=10) rfl (fun pP=>?_) (fun pP=>?_))))))))
 ·exact .T (.z zm (.T (.z zm (.T (.z oY (.z zpT (.zn zg (.ret (Fin.bj results253 rfl ⟨by simp [*],hs.out⟩)))))))))
 ·exact .Fs 3 3 true (.z zpF (.zn zg (.ret (Fin.bj results253 rfl ⟨by simp [*],hs.out⟩))))
theorem rD{w:World}{many:Int}{l:Lim}(hs:St H w σ):aaR 256 [I many,.agg l.c.toArray] w fun v w'=>v=I (if decide (0≤many∧many≤64)&&l.ok many then 0 else 20)∧St H w' σ:=by
 refine Cl.o func256 ntmps256 ag2 ?_;refine .af (.bx hs fun b3 w hs=>?_);refine .zn zg (.seq (.af (.z zm (.o (.call call253 rfl (gE hs) ?_)))));rintro _ w ⟨rfl,hs⟩;refine .z fU (.z zm (.bif (t':=8) rfl (fun Pc=>?_) (fun Pc=>?_)))
 ·refine .Fs 5 3 false (.z zpT (.z zm (.Fs 5 10 false (.z zpT (.z zm (.Fs 5 17 false (.z zpT (.z zm (.Fs 4 24 false (.z zpT (.z zm (.Fs 4 30 false (.zn zpT (.cT (.af (.zn zg (.ret (rT (Fin.bj DG rfl ?_)))))))))))))))))))
  (try simp only [kA] at*)
  (try simp only [jG] at*)
  refine ⟨congrArg I ?_,hs.out⟩;unfold Lim.ok;first
   |(rw [if_pos (by simp only [Bool.and_eq_true,decide_eq_true_eq];omega)];done)
   |(rw [if_neg (by simp only [Bool.and_eq_true,decide_eq_true_eq];omega)];done)
 ·refine .T (.z (zfa dS) (.T (.y hs (zld aj) (.T (.z zm (.T (.o (.call call253 rfl (gE hs) ?_))))))));rintro _ w ⟨rfl,hs⟩;refine .T (.z fU (.z zpF (.z zm (.bif (t':=15) rfl (fun Aw=>?_) (fun Aw=>?_)))))
  ·refine .Fs 5 10 false (.z zpT (.z zm (.Fs 5 17 false (.z zpT (.z zm (.Fs 4 24 false (.z zpT (.z zm (.Fs 4 30 false (.zn zpT (.cT (.af (.zn zg (.ret (rT (Fin.bj DG rfl ?_))))))))))))))))
   (try simp only [kA] at*)
   (try simp only [jG] at*)
   refine ⟨congrArg I ?_,hs.out⟩;unfold Lim.ok;first
    |(rw [if_pos (by simp only [Bool.and_eq_true,decide_eq_true_eq];omega)];done)
    |(rw [if_neg (by simp only [Bool.and_eq_true,decide_eq_true_eq];omega)];done)
  ·refine .T (.z (zfa ed) (.T (.y hs (zld aj) (.T (.z zm (.T (.o (.call call253 rfl (gE hs) ?_))))))));rintro _ w ⟨rfl,hs⟩;refine .T (.z fU (.z zpF (.z zm (.bif (t':=22) rfl (fun QI=>?_) (fun QI=>?_)))))
   ·refine .Fs 5 17 false (.z zpT (.z zm (.Fs 4 24 false (.z zpT (.z zm (.Fs 4 30 false (.zn zpT (.cT (.af (.zn zg (.ret (rT (Fin.bj DG rfl ?_)))))))))))))
    (try simp only [kA] at*)
    (try simp only [jG] at*)
    refine ⟨congrArg I ?_,hs.out⟩;unfold Lim.ok;first
     |(rw [if_pos (by simp only [Bool.and_eq_true,decide_eq_true_eq];omega)];done)
     |(rw [if_neg (by simp only [Bool.and_eq_true,decide_eq_true_eq];omega)];done)
   ·refine .T (.z (zfa dS) (.T (.y hs (zld aj) (.T (.z (zfa ed) (.T (.y hs (zld aj) (.T (.z fy (.z zpF (.z zm (.iz (t':=29) rfl (fun XJ=>?_) (fun XJ=>?_)))))))))))))
    ·refine .Fs 4 24 false (.z zpT (.z zm (.Fs 4 30 false (.zn zpT (.cT (.af (.zn zg (.ret (rT (Fin.bj DG rfl ?_))))))))))
     (try simp only [kA] at*)
     (try simp only [jG] at*)
     refine ⟨congrArg I ?_,hs.out⟩;unfold Lim.ok;first
      |(rw [if_pos (by simp only [Bool.and_eq_true,decide_eq_true_eq];omega)];done)
      |(rw [if_neg (by simp only [Bool.and_eq_true,decide_eq_true_eq];omega)];done)
    ·refine .T (.z (zfa eZ) (.T (.y hs (zld aj) (.T (.o (.call call253 rfl (gE hs) ?_))))));rintro _ w ⟨rfl,hs⟩;refine .T (.z fU (.z zpF (.z zm (.bif (t':=35) rfl (fun Ga=>?_) (fun Ga=>?_)))))
     ·refine .Fs 4 30 false (.zn zpT (.cT (.af (.zn zg (.ret (rT (Fin.bj DG rfl ?_)))))))
      (try simp only [kA] at*)
      (try simp only [jG] at*)
      refine ⟨congrArg I ?_,hs.out⟩;unfold Lim.ok;first
       |(rw [if_pos (by simp only [Bool.and_eq_true,decide_eq_true_eq];omega)];done)
       |(rw [if_neg (by simp only [Bool.and_eq_true,decide_eq_true_eq];omega)];done)
     ·refine .T (.z (zfa lX) (.T (.y hs (zld aj) (.T (.o (.call call253 rfl (gE hs) ?_))))));rintro _ w ⟨rfl,hs⟩;refine .T (.z fU (.zn zpF (.cond rfl (fun nN=>?_) (fun nN=>?_))))
      ·refine .af (.zn zg (.ret (rT (Fin.bj DG rfl ?_))))
       (try simp only [kA] at*)
       (try simp only [jG] at*)
       refine ⟨congrArg I ?_,hs.out⟩;unfold Lim.ok;first
        |(rw [if_pos (by simp only [Bool.and_eq_true,decide_eq_true_eq];omega)];done)
        |(rw [if_neg (by simp only [Bool.and_eq_true,decide_eq_true_eq];omega)];done)
      ·refine .skip (nT (.af (.zn zg (.ret (Fin.bj DG rfl ?_)))))
       (try simp only [kA] at*)
       (try simp only [jG] at*)
       refine ⟨congrArg I ?_,hs.out⟩;unfold Lim.ok;first
        |(rw [if_pos (by simp only [Bool.and_eq_true,decide_eq_true_eq];omega)];done)
        |(rw [if_neg (by simp only [Bool.and_eq_true,decide_eq_true_eq];omega)];done)
theorem qp{w:World}{v:Value}{s:dv}(hs:St H w σ)(hr:RSy H v s):aaR 206 [v] w fun v w'=>v=I s.check∧St H w' σ:=by
 obtain ⟨u,rfl,hr⟩:=hr;obtain ⟨a,c,rfl⟩:=RL.shape hr;have hlen:=(RS.len (RS.VC hr (Nat.le_refl _) (tY:=s.df.length))).2.2;refine Cl.o func206 ntmps206 ag1 ?_;refine .af (.bx hs fun b1 w hs=>?_);refine .zn zg (.seq (.af (.z (zfa cz) (.y hs (zld aj) (.o (.call call253 rfl (gE hs) ?_))))));rintro _ w ⟨rfl,hs⟩;refine .zn fU (.cond rfl (fun ur=>?_) (fun ur=>?_))
 ·exact .af (.zn zg (.ret (rT (Fin.bj results206 rfl ⟨congrArg I (by unfold dv.check;rw [if_pos (by simp at ur;omega)]),hs.out⟩))))
 ·refine .skip (nT (.seq (.af (.z (zfa cO) (.y hs (zld gz) (.z (de aO) (.zn kU (.bh rfl (fun fl=>?_) (fun fl=>?_)))))))))
  ·exact .af (.zn zg (.ret (rT (Fin.bj results206 rfl ⟨congrArg I (by unfold dv.check;rw [if_neg (by simpa using ur),if_pos ai]),hs.out⟩))))
  ·refine .skip (nT (.seq (.af (.z (zfa cO) (.y hs (zld gz) (.z (de aO) (.zn zm (.for (N:=s.df.length) (J:=fun k fr w=>fr=[(14,.slice a s.df.length c),(1,Pt b1)]∧(∀j<k,∀l,s.df[j]? =some l→l.ok s.many=true)∧St H w (.blk b1 [I s.many,.slice a s.df.length c]::σ)) ai ?_ ?_ ?_))))))))
   ·exact .mk ⟨rfl,fun j hj=>by omega,hs⟩
   ·rintro k fr w hk ⟨rfl,eE,hs⟩;obtain ⟨x,hx⟩:=nth (l:=s.df) hk;refine .block (.af (.ixX (enc:=Lim.c) hs hr rfl rfl aO bU hx rfl ?_));intro xO o18 ib;refine .q hs (bQ (vs:=x.c) rfl lG bU ib) (.o (.alloc hs iS rfl fun b4 w hs=>?_));refine .o (.aE (vs:=x.c) hs rfl rfl bU fun w hs=>?_);refine .nil (.af (.z (zfa cz) (.y hs (zld aj) (.q hs (mG (vs:=x.c) rfl lG bU) (.o (.call call256 rfl (rD hs) ?_))))));rintro _ w ⟨rfl,hs⟩;have CT:0≤s.many∧s.many≤64:=by simpa using ur
    rw [show (decide (0≤s.many∧s.many≤64)&&x.ok s.many)=x.ok s.many by rw [decide_eq_true CT];rfl];refine .zn fV (.dK rfl (fun jX=>?_) (fun jX=>?_))
    ·refine .af (.zn zg (.ret (rB (rT (rB (rT (Fin.bj results206 rfl ?_)))))));exact ⟨congrArg I (by
      have Dt:x.ok s.many=false:=by cases e:x.ok s.many with|false=>rfl|true=>rw [e] at jX;simp at jX
      unfold dv.check;rw [if_neg (by simpa using ur),if_neg ai,if_pos (List.any_eq_true.2 ⟨x,List.mem_of_getElem? hx,by rw [Dt];rfl⟩)]),hs.out⟩
    ·exact .skip (nB (nT (.mk ⟨rfl,fH eE hx (by cases e:x.ok s.many with|true=>rfl|false=>rw [e] at jX;simp at jX),hs.tail⟩)))
   ·rintro fr w ⟨rfl,eE,hs⟩;refine nT (.af (.zn zg (.ret (Fin.bj results206 rfl ?_))));exact ⟨congrArg I (by
     have lE:(s.df.any fun l=> !l.ok s.many)=false:=by
      simp only [List.any_eq_false,Bool.not_eq_true',Bool.not_eq_false];intro l hl;obtain ⟨j,hj⟩:=List.getElem?_of_mem hl;exact eE j (List.getElem?_eq_some_iff.1 hj).1 l hj
     unfold dv.check;rw [if_neg (by simpa using ur),if_neg ai,lE];rfl),hs.out⟩
theorem yf{w:World}{v:Value}(hs:St H w σ)(hr:RI H v ws):aaR 300 [v] w fun v w'=>∃b,v= .bool b∧(b=true↔jw ws)∧St H w' σ:=by
 obtain ⟨a,c,rfl⟩:=RI.shape hr;have hl:=(RI.len hr).2.2;refine Cl.o func300 ntmps300 ag1 ?_;refine .af (.zn zg (.af (.zn zg (.seq (.af (.z zm (.z (de ae) (.zn zm (.for (N:=ws.length) (J:=fun k fr w=>fr=[(6,.slice a ws.length c),(3,I (bT ws k))]∧bT ws k≤3600000000000∧St H w σ) ai ?_ ?_ ?_)))))))))
 ·exact .mk ⟨rfl,by simp [bT,a8],hs⟩
 ·rintro k fr w hk ⟨rfl,hle,hs⟩;have hx:=bu hk;have h0:0≤bT ws k:=dx fun v _=>by omega
  have h1:bT ws (k+1)=bT ws k+max (gi ws k) (-gi ws k):=rfl;refine .block (.af ?_);first|(refine .ixv hs ae an ?_;intro ny o10 pM)|refine .z (zix ae an) ?_
  refine .y hs (zld aj) (.zn zg (.seq (.af (.z zm (.z fN (.z zm (.iz (t':=14) rfl (fun CZ=>?_) (fun CZ=>?_))))))))
  ·exact .Fs 2 2 false (.zn zpT (.cT (.af (.zn zg (.ret (rT (rB (rT (rB (rT (Fin.bj results300 rfl ⟨false,rfl,⟨fun h=>(by cases h),fun h=>(pb (k:=k+1) hk (by simp only [FF];omega) h).elim⟩,hs⟩)))))))))))
  ·refine .T (.z zm (.T (.z kU (.zn zpF (.bh rfl (fun iW=>?_) (fun iW=>?_))))))
   ·exact .af (.zn zg (.ret (rT (rB (rT (rB (rT (Fin.bj results300 rfl ⟨false,rfl,⟨fun h=>(by cases h),fun h=>(pb (k:=k+1) hk (by simp only [FF];omega) h).elim⟩,hs⟩))))))))
   ·refine .skip (nT (.af (.z zm (.z zm (.z zm (.z Fm (.z DK (.z cH (.zn zg (.af (.z zm (.zn kU (.bh rfl (fun fc=>?_) (fun fc=>?_))))))))))))))
    ·exact .af (.zn zg (.ret (rB (rT (rB (rT (Fin.bj results300 rfl ⟨false,rfl,⟨fun h=>(by cases h),fun h=>(pb (k:=k+1) hk (by simp only [FF];omega) h).elim⟩,hs⟩)))))))
    ·exact .skip (nB (nT (.mk ⟨rfl,ai,hs⟩ (hs:= .cons rfl (.cons rfl (.cons rfl (.cD rfl ai (.nil rfl rfl))))))))
 ·rintro fr w ⟨rfl,hle,hs⟩;exact nT (.af (.zn zg (.ret (Fin.bj results300 rfl ⟨true,rfl,⟨fun _=>hle,fun _=>rfl⟩,hs⟩))))
theorem uM{w:World}{v:Value}{s:dv}(hs:St H w σ)(hr:RSy H v s)(ti:RI H vw ws)(hm:0≤s.many∧s.many≤64):aaR 278 [v,vw] w fun v w'=>∃b,v= .bool b∧(b=true↔(ws.length=s.n∧jw ws))∧St H w' σ:=by
 obtain ⟨u,rfl,hr⟩:=hr;obtain ⟨aw,cw,rfl⟩:=RI.shape ti;have hn:(s.n:Int)=s.many+1:=by simp only [dv.n];omega
 refine Cl.o func278 ntmps278 ag2 ?_;refine .af (.bx hs fun b2 w hs=>?_);refine .zn zg (.af (.z zm (.z (de ae) (.z (zfa cz) (.y hs (zld aj) (.z cH (.z fy (.z zm (.iz (t':=11) rfl (fun oO=>?_) (fun oO=>?_))))))))))
 ·refine .T (.z zm (.T (.o (.call call300 rfl (yf hs ti) ?_))));rintro _ w ⟨b,rfl,hb,hs⟩;refine .z zpT (.zn zg (.ret (Fin.bj results278 rfl ?_)));first
   |exact ⟨b,rfl,⟨fun h=>⟨ai,hb.1 h⟩,fun h=>hb.2 h.2⟩,hs.out⟩
   |exact ⟨false,rfl,⟨fun h=>(by cases h),fun h=>by omega⟩,hs.out⟩
 ·refine .Fs 2 6 true (.z zpF (.zn zg (.ret (Fin.bj results278 rfl ?_))));first
   |exact ⟨b,rfl,⟨fun h=>⟨ai,hb.1 h⟩,fun h=>hb.2 h.2⟩,hs.out⟩
   |exact ⟨false,rfl,⟨fun h=>(by cases h),fun h=>by omega⟩,hs.out⟩
theorem yi{w:World}{v:Value}{s:dv}(hs:St H w σ)(hr:RSy H v s)(ti:RI H vw ws):aaR 252 [v,vw] w fun v w'=>v=I (fj s ws)∧St H w' σ:=by
 obtain ⟨u,rfl,hr⟩:=hr;obtain ⟨al,cl,rfl⟩:=RL.shape hr;obtain ⟨aw,cw,rfl⟩:=RI.shape ti;refine Cl.o func252 ntmps252 ag2 ?_;refine .af (.bx hs fun b2 w hs=>?_);refine .zn zg (.af (.y hs (zls [_,_] cn aV) (.o (.call call206 rfl (qp (s:=s) hs ⟨_,rfl,hr⟩) ?_))));rintro _ w ⟨rfl,hs⟩;refine .zn zg (.seq (.af (.z zm (.z fy (.z zm (.iz (t':=10) rfl (fun pP=>?_) (fun pP=>?_)))))))
 ·refine .T ?_;have aZ:=s.dX.1 pP;have Fh:=aZ.m0;have Jo:=aZ.m1;refine .y hs (zls [_,_] cn aV) (.T (.z zm (.T (.o (.call call278 rfl (uM (s:=s) hs ⟨_,rfl,hr⟩ ti ⟨Fh,Jo⟩) ?_)))));rintro _ w ⟨b,rfl,hb,hs⟩;refine .T (.z fU (.zn zpT (.cond rfl (fun e7=>?_) (fun e7=>?_))))
  ·refine .region (.zn zg (nT (.af (.z zm (.zn zg (.ret (Fin.bj results252 rfl ⟨congrArg I ?_,hs.out⟩)))))));unfold fj;first
    |(rw [if_neg ai,if_neg (fun h=>by have:=hb.2 h;simp_all)];done)
    |(rw [if_neg ai,if_pos (hb.1 (by simpa using e7))];omega)
    |(rw [if_pos di];done)
  ·refine .skip (nT (.af (.z zm (.zn zg (.ret (Fin.bj results252 rfl ⟨congrArg I ?_,hs.out⟩))))));unfold fj;first
    |(rw [if_neg ai,if_neg (fun h=>by have:=hb.2 h;simp_all)];done)
    |(rw [if_neg ai,if_pos (hb.1 (by simpa using e7))];omega)
    |(rw [if_pos di];done)
 ·refine .Fs 4 2 true (.zn zpF (.cF (.skip (nT (.af (.z zm (.zn zg (.ret (Fin.bj results252 rfl ⟨congrArg I ?_,hs.out⟩)))))))));unfold fj;first
   |(rw [if_neg ai,if_neg (fun h=>by have:=hb.2 h;simp_all)];done)
   |(rw [if_neg ai,if_pos (hb.1 (by simpa using e7))];omega)
   |(rw [if_pos di];done)
theorem tJ{w:World}{v:Value}(hs:St H w σ)(hr:RI H v ws)(hl:ws.length≤1000)(hz:jw ws):aaR 281 [v] w fun u w'=>∃H1,HLe H H1∧RI H1 u (u6 ws)∧St H1 w' σ:=by
 obtain ⟨a,c,rfl⟩:=RI.shape hr;have aaC:FF=3600000000000:=rfl;unfold jw at hz;refine Cl.o func281 ntmps281 ag1 ?_;refine .af (.zn zg (.af (.zn zg (.seq (.af (.z zm (.z (de ae) (.zn zm (.for (N:=ws.length) (J:=fun k fr w=>∃v3 en,cU 1 v3 (Is (u6 (ws.take k))) en∧fr=[(3,v3),(6,.slice a ws.length c)]∧St H w (en::σ)) ai ?_ ?_ ?_)))))))))
 ·exact .mk ⟨_,_,.nil 1 none,rfl,hs.nul⟩
 ·rintro k fr w hk ⟨v3,en,hO,rfl,hs⟩;have hx:=bu hk;have wm:=jV ws (v:=k) (n:=ws.length) hk;refine .block (.af (.ixY hs hr rfl rfl ae an hx rfl ?_));intro ny o10 pM;refine .q hs (aC rfl aj pM) (.zn zg (.region (.z zm (.z zm (.z Fm (.o (.buildSlice (cells:=[_]) hs cV rfl rfl fun yM w hs=>?_)))))));refine .o (.append (ys:=[I (-gi ws k)]) hs cA rfl rfl hO (.own .here rfl rfl) (by simp [Value.oneCell']) (fun l' h=>by simp [u6] at h;omega) ?_);intro v16 en16 w dY hs;exact .zn zg (nB (nT (.mk ⟨v16,en16,by rw [dr hx];simpa [u6] using dY,rfl,hs.sb⟩)))
 ·rintro fr w ⟨v3,en,hO,rfl,hs⟩;rw [List.take_length] at hO;refine nT (.af (.z zm (.zn zg (.ret (Fin.bj results281 rfl ?_)))));obtain ⟨H2,g1,g2,hs⟩:=hO.dR (by simp [u6];omega) hs .here;exact ⟨H2,g1,g2,hs⟩
theorem rA{w:World}{s:dv}(hs:St H w σ)(hM:RT H vm Ms)(Fg:Sq s.n Ms)(hT:kF s.n s.dG (gt Ms))(ti:RI H vw ws)(hA:fj s ws=0):
  aaR 280 [vm,vw] w fun u w'=>∃H1 n e,HLe H H1∧u= .tuple #[I n,I e]∧qZ s ws n e∧St H1 w' σ:=by
 obtain ⟨aZ,Bj,hz⟩:=nW hA;have Er:=aZ.inn;have Bk:=aZ.n65;have U3:=s.Iv;obtain ⟨fs,hF⟩:=HY s.n (gt Ms);have oX:=BL aZ hT;have US:bT ws s.n≤FF:=by unfold jw at hz;rwa [Bj] at hz
 refine Cl.o func280 ntmps280 ag2 ?_;refine .af (.z zg (.zn zg (.seq (.af (.z zm (.o (.call call208 rfl (qo hs hM Fg ai) ?_)))))));rintro _ w ⟨b,rfl,hb,hs⟩;refine .zn fU (.cond rfl (fun pM=>?_) (fun pM=>?_))
 ·refine .af (.z zg (.zn zg (.ret (rT (Fin.gU results280 rfl rfl ?_)))));have A3:b=false:=by simpa using pM
  exact ⟨H,0,23,HLe.refl H,rfl,Aa hA (fun h=>by have:=hb.2 (oX.1 h);rw [A3] at this;cases this),hs⟩
 ·refine .skip (nT (.af (.z zm (.z zm ?_))));have Wh:s.Sound:=oX.2 (hb.1 (by simpa using pM));refine .o (.call call301 rfl (yk (n:=s.many.toNat) (es:=fs) hs hM Fg ti Bj Bk US hF (by obtain ⟨p,hp⟩:=Wh;exact ⟨p,(hT.Bs Er hF).2 hp⟩)
   (fun x hx=>by
    obtain ⟨b1,b2,b3,b4,b5⟩:=hF.ok x hx;have h1:=hT.up x.f x.t b1 b2 (by rw [b4];exact b5);have h2:=hT.low U3 Bk Er Wh b1 b2 (by rw [b4];exact b5);rw [b4] at h1 h2;exact ⟨h2,h1⟩)
   (fun m hm=>by
    have:=(aZ.bd Bj hz ((hT.opt Er hF).1 hm)).2;exact ⟨this.2,this.1⟩)) ?_);rintro _ w ⟨H1,n,ok,az,rfl,jt,hs⟩
  refine .z zm (.z zex (.z zex (.z zg (.zn zg (.seq (.af (.z zm (.zn fU (.cond rfl (fun ib=>?_) (fun ib=>?_))))))))))
  ·refine .af (.z zg (.zn zg (.ret (rT (Fin.gU results280 rfl rfl ?_)))));have Fi:ok=false:=by simpa using ib
   rcases jt with ⟨h,_⟩|⟨_,h⟩
   ·rw [Fi] at h;cases h
   ·exact ⟨H1,0,22,az,rfl,Iy hA Wh hT hF h,hs⟩
  ·refine .skip (nT (.af (.z zm (.z zg (.zn zg (.ret (Fin.gU results280 rfl rfl ?_)))))));have Fi:ok=true:=by simpa using ib
   rcases jt with ⟨_,h⟩|⟨h,_⟩
   ·exact ⟨H1,n,0,az,rfl,Kj hA hT hF h,hs⟩
   ·rw [Fi] at h;cases h
theorem zS{w:World}{v:Value}{s:dv}(hs:St H w σ)(hr:RSy H v s)(ti:RI H vw ws)(hA:fj s ws=0):
  aaR 255 [v,vw] w fun u w'=>∃H1 lo hi e,HLe H H1∧u= .tuple #[I lo,I hi,I e]∧ik s ws lo hi e∧St H1 w' σ:=by
 obtain ⟨u,rfl,hr⟩:=hr;obtain ⟨al,cl,rfl⟩:=RL.shape hr;obtain ⟨aZ,Bj,hz⟩:=nW hA;have Bk:=aZ.n65;have hBB:BB=4608000000000000000:=rfl;refine Cl.o func255 ntmps255 ag2 ?_;refine .af (.bx hs fun b2 w hs=>?_);refine .z zg (.z zg (.zn zg (.af (.y hs (zls [_,_] cn aV) (.o (.call call207 rfl (rC (s:=s) hs ⟨_,rfl,hr⟩ aZ) ?_))))));rintro _ w ⟨H1,Ms,az,hM,Fg,hT,hs⟩;refine .zn zg (.af (.z zm (.z zm (.o (.call call280 rfl (rA (s:=s) hs hM Fg hT (ti.mono az) hA) ?_)))));rintro _ w ⟨H2,n,e,bg,rfl,hR,hs⟩;refine .z zm (.z zex (.z zex (.z zg (.zn zg (.seq (.af (.z zm (.zn fV (.dK rfl (fun qR=>?_) (fun qR=>?_))))))))))
 ·exact .af (.z zm (.z zg (.z zg (.zn zg (.ret (rT (Fin.OB results255 rfl rfl rfl ⟨H2,0,0,e,az.trans bg,rfl,.first hR qR,hs.out⟩)))))))
 ·refine .skip (nT (.af (.z zm (.z zm ?_))));obtain rfl:e=0:=by simpa using qR
  refine .o (.call call281 rfl (tJ hs ((ti.mono az).mono bg) ai hz) ?_);rintro _ w ⟨H3,bZ,hN,hs⟩;refine .o (.call call280 rfl (rA (s:=s) (ws:=u6 ws) hs ((hM.mono bg).mono bZ) Fg hT hN (by rw [sI];exact hA)) ?_);rintro _ w ⟨H4,n2,e2,eH,rfl,T1,hs⟩;refine .z zm (.z zex (.z zex (.z zg (.zn zg (.seq (.af (.z zm (.zn fV (.dK rfl (fun nm=>?_) (fun nm=>?_))))))))))
  ·exact .af (.z zm (.z zg (.z zg (.zn zg (.ret (rT (Fin.OB results255 rfl rfl rfl ⟨H4,0,0,e2,az.trans (bg.trans (bZ.trans eH)),rfl,.second hR T1 nm,hs.out⟩)))))))
  ·refine .skip (nT (.af (.z zm ?_)));obtain rfl:e2=0:=by simpa using nm
   have sZ:=(T1.2.2 rfl).2;exact .z Fm (.z zm (.z zg (.z zg (.zn zg (.ret (Fin.OB results255 rfl rfl rfl ⟨H4,-n2,n,0,az.trans (bg.trans (bZ.trans eH)),rfl,.ok hR T1,hs.out⟩))))))
theorem yj{w:World}{v:Value}{s:dv}(hs:St H w σ)(hr:RSy H v s)(ti:RI H vw ws):
  aaR 204 [v,vw] w fun u w'=>∃H1 lo hi e,HLe H H1∧u= .tuple #[I lo,I hi,I e]∧ik s ws lo hi e∧St H1 w' σ:=by
 obtain ⟨u,rfl,hr⟩:=hr;obtain ⟨al,cl,rfl⟩:=RL.shape hr;obtain ⟨aw,cw,rfl⟩:=RI.shape ti;refine Cl.o func204 ntmps204 ag2 ?_;refine .af (.bx hs fun b2 w hs=>?_);refine .z zg (.z zg (.zn zg (.af (.y hs (zls [_,_] cn aV) (.z zm (.o (.call call252 rfl (yi (s:=s) hs ⟨_,rfl,hr⟩ ti) ?_)))))));rintro _ w ⟨rfl,hs⟩;refine .zn zg (.seq (.af (.z zm (.zn fV (.dK rfl (fun fl=>?_) (fun fl=>?_))))))
 ·exact .af (.z zm (.z zg (.z zg (.zn zg (.ret (rT (Fin.OB results204 rfl rfl rfl ⟨H,0,0,_,HLe.refl H,rfl,.first ⟨.bad fl,fun _=>rfl,fun h=>(fl h).elim⟩ fl,hs.out⟩)))))))
 ·refine .skip (nT (.af (.y hs (zls [_,_] cn aV) (.z zm ?_))));have hA:fj s ws=0:=by simpa using fl
  refine .o (.call call255 rfl (zS (s:=s) hs ⟨_,rfl,hr⟩ ti hA) ?_);rintro _ w ⟨H1,lo,hi,e,az,rfl,hR,hs⟩;exact .z zex (.z zex (.z zex (.z zg (.z zg (.zn zg (.ret (Fin.OB results204 rfl rfl rfl ⟨H1,lo,hi,e,az,rfl,hR,hs.out⟩)))))))
theorem ot{w:World}{v:Value}{l:List Int}(hs:St H w (en::σ))(ho:cU 1 v (Is l) en)(hl:l.length≤1000000):
  aaR 270 [v] w fun _ w'=>∃kO,cU 1 v (Is l.reverse) kO∧St H w' (kO::σ):=by
 rcases ho with ⟨a,rfl,h2,rfl⟩|⟨b,len,cap,sp,rfl,rfl,h2,h3,h4⟩
 ·obtain rfl:l=[]:=by
   have:=congrArg List.length h2;exact List.length_eq_zero_iff.1 (by simpa using this)
  have hs:=hs.tail;refine Cl.o func270 ntmps270 ag1 ?_;refine .af (.z zm (.z (de ae) (.z gx (.z zg (.zn zg (.block (.loop (fun _:Unit=>⟨28,[],[(2,I 0),(3,I (-1))]⟩) (fun _ w=>St H w σ) (fun _=>0) () aH hs ?_)))))));rintro _ w hs;refine .seq (.af (.z zm (.z zm (.zn fN (.bh rfl (fun nv=>?_) (fun nv=>?_))))))
  ·omega
  ·exact .exit (xT (xT (xB (Fin.EO results270 ⟨.nul,.nil 1 a,hs.nul⟩))))
 obtain rfl:len=l.length:=by simpa using h2.symm
 refine Cl.o func270 ntmps270 ag1 ?_;refine .af (.z zm (.z (de ae) (.z gx (.z zg (.zn zg (.block (.loop (fun p:Nat×List Int=>⟨28,[],[(2,I p.1),(3,I ((l.length:Int) - 1 - p.1)),(0,.slice (some ⟨b,0,none⟩) l.length cap)]⟩) (fun p w=>(2*p.1≤l.length+1∧sm l p.2 p.1)∧St H w (.blk b (Is p.2++sp)::σ)) (fun p=>l.length - p.1) (0,l) (.cons rfl (.cD rfl bH (.cons rfl (.nil rfl rfl)))) ⟨⟨bH,.start l⟩,hs⟩ ?_)))))));rintro ⟨i,L⟩ w ⟨⟨h5,h6⟩,hs⟩;dsimp only at h5 h6 hs ⊢;have hL:=h6.1;refine .seq (.af (.z zm (.z zm (.zn fN (.bh rfl (fun nv=>?_) (fun nv=>?_))))))
 ·refine .skip (nT (.seq (.block (.draw mix rfl hs fun w hs=>?_))));refine .zw 0 rfl zm ?_;refine .z 1 rfl zm ?_;refine .z 2 rfl zm ?_;refine .z 3 rfl zm ?_;refine .z 4 rfl zm ?_;refine .z 5 rfl zm ?_;refine .zw 6 rfl (eS (k:=l.length - 1 - i) rfl rfl ae an ai ai) (.load (i:=7) hs rfl aA .none rfl aj ?_ (hv:=gQ ai sp));refine .zw 8 rfl zm ?_;refine .z 9 rfl zm ?_;first|(refine .ixv 10 rfl hs ae an ?_;intro ue o24 jX)|refine .z 10 rfl (zix ae an) ?_
  refine .load (i:=11) hs rfl aA .none rfl aj ?_ (hv:=gQ ai sp);first|(refine .ixv 12 rfl hs ae an ?_;intro Ur o26 iV)|refine .z 12 rfl (zix ae an) ?_
  refine .E 13 hs ?_;refine .store hs rfl rfl an ?_ dy (by simp;omega) (km ai sp _);intro w hs;refine .go (.zw 14 rfl (eS (k:=l.length - 1 - i) rfl rfl ae an ai ai) (.E 15 hs ?_));refine .store hs rfl rfl an ?_ dy (by simp;omega) (km (by simp;omega) sp _);intro w hs;exact .go (.D hs (nB (nT (.region (.z zm (.z cH (.z zm (.z gx (.z zg (.zn zg (nT ⟨(i+1,_),.cons rfl (.cD rfl (by push_cast;omega) (.cons rfl (.nil rfl rfl))),⟨⟨by dsimp only;omega,h6.step ai⟩,hs⟩,by dsimp only;omega⟩)))))))))))
 ·refine .exit (xT (xT (xB ?_)));rw [h6.done ai] at hs;exact Fin.EO results270 ⟨_,.inr ⟨b,l.length,cap,sp,rfl,rfl,bH,by rw [←h3];simp,h4⟩,hs⟩
inductive R6(s:dv)(xs:List Int):Int→Prop
 |bad (h:s.check≠0) (h1:xs=[]):R6 s xs s.check
 |sound (h:s.Ok) (h1:s.Sound) (h2:xs=[]):R6 s xs 0
 |chain {st:BS} {x:Arc} {z k:Nat} (h:s.Ok) (h1:¬s.Sound) (h2:Uy s.n s.dG st (some x)) (h3:z=tL st.by_ x.t (s.n+1)) (h4:1≤k) (h5:k≤s.n) (h6:tL st.by_ z k=z) (h7:xs=(CQ st.by_ z k).reverse):R6 s xs 0
theorem R6.JP{s:dv}(h:R6 s xs 0):xs=[]↔s.Sound:=by
 generalize hz:(0:Int)=y at h
 cases h with
 |bad h=>exact (h hz.symm).elim
 |sound _ h1 h2=>exact ⟨fun _=>h1,fun _=>h2⟩
 | @chain st x z k _ h1 _ _ h4 _ _ h7=>exact ⟨fun h=>by
   have:=congrArg List.length (h7.symm.trans h);rw [List.length_reverse,rK] at this;simp at this;omega,fun h=>(h1 h).elim⟩
set_option maxHeartbeats 4000000 in
theorem yJ{w:World}{v:Value}{s:dv}(hs:St H w σ)(hr:RSy H v s):
  aaR 221 [v] w fun u w'=>∃H1 vx xs e,HLe H H1∧u= .tuple #[vx,I e]∧RI H1 vx xs∧R6 s xs e∧St H1 w' σ:=by
 obtain ⟨u,rfl,hr⟩:=hr;obtain ⟨al,cl,rfl⟩:=RL.shape hr;refine Cl.o func221 ntmps221 ag1 ?_;refine .af (.bx hs fun b1 w hs=>?_);refine .z zg (.zn zg (.seq (.af (.y hs (zls [_,_] cn aV) (.o (.call call197 rfl (ku (s:=s) hs ⟨_,rfl,hr⟩) ?_))))));rintro _ w ⟨rfl,hs⟩;refine .zn zg (.af (.z zm (.zn fV (.dK rfl (fun jH=>?_) (fun jH=>?_)))))
 ·exact .af (.z zm (.z zg (.zn zg (.ret (rT (Fin.gU results221 rfl rfl ⟨H,_,[],_,HLe.refl H,rfl,RS.nil H 1 none 0,.bad jH rfl,hs.out⟩))))))
 ·refine .skip (nT (.seq (.draw mix rfl hs fun w hs=>?_)));refine .zw 0 rfl (zfa cz) ?_;refine .y 1 rfl hs aj ?_;refine .ys 2 rfl hs [_,_] cn aV ?_;refine .E 3 hs ?_;have aZ:s.Ok:=s.dX.1 (by simpa using jH);have p9:=aZ.dG;have hn:s.n=s.many.toNat+1:=rfl;have Fh:=aZ.m0;have Jo:=aZ.m1;refine .call call269 rfl (mR (s:=s) hs aZ ⟨_,rfl,hr⟩) ?_;rintro _ w ⟨H1,ny,az,rfl,qO,hs⟩;refine .go (.E 4 hs ?_);have OR:=lx (N:=s.many.toNat) hs ai (by rw [←hn];exact p9) qO call295;rw [Int.toNat_of_nonneg Fh] at OR;refine .call call225 rfl OR ?_;rintro _ w ⟨H2,bc,bb,st,ov,vo,bg,rfl,IG,RE,hs⟩;obtain ⟨a',rfl,Pd⟩:=IG.ptr;refine .go (.zw 5 rfl zm ?_);refine .z 6 rfl zex ?_;refine .z 7 rfl zex ?_;refine .z 8 rfl zex ?_;refine .z 9 rfl zg ?_;refine .z 10 rfl zg ?_;refine .z 11 rfl zg ?_;refine .D hs ?_;refine .seq (.af (.z zm (.q hs (J7 rfl rfl runUnderlying268) (.nil (.cond rfl (fun iV=>?_) (fun iV=>?_))))))
  ·refine .af (.z zg (.zn zg (.ret (rT (Fin.gU results221 rfl rfl ?_)))));exact ⟨H2,_,[],0,az.trans bg,rfl,RS.nil H2 1 none 0,.sound aZ (by
    obtain ⟨r,L9,Am⟩:=RE
    cases ov with
    |none=>exact ⟨_,(L9.sol (by rw [←hn];exact p9) ai).1⟩
    |some x=>rw [Pd] at iV;cases iV) rfl,hs.out⟩
  ·refine .skip (nT (.af (.z zm ?_)));obtain ⟨x,rfl⟩:=OvR.yes Pd iV;obtain ⟨b3,e3,pH⟩:=IG;cases e3
   have S0:cellAt H2 b3 1=some (I x.t):=pH.at 1;have U6:s.many+2=((s.many.toNat+2:Nat):Int):=by omega
   have S5:¬s.Sound:=by
    obtain ⟨r,L9,Am⟩:=RE;exact L9.none (by rw [←hn];exact p9) ai (by have:=Am bH;omega)
   obtain ⟨Dw,Wr,Fe⟩:st.by_.length=s.many.toNat+1∧(∀v<s.many.toNat+1,(ga st.by_ v).f<s.many.toNat+1)∧x.t<s.many.toNat+1:=by
    obtain ⟨r,L9,Am⟩:=RE;exact ⟨L9.lb,fun v hv=>(L9.rg v hv).1,(p9.2 x (L9.ovm x rfl)).2.1⟩
   have Jn:=fun k=>CH Wr Fe k
   refine .z znc (.z (zfa dZ) (.q hs (aC rfl aj S0) (.zn zg (.seq (.af (.z (zfa cz) (.y hs (zld aj) (.z cH ?_))))))));rw [U6];refine .zn zm (.for (N:=s.many.toNat+2) (J:=fun k fr w=>fr=[(8,I (tL st.by_ x.t k)),(6,.slice (some ⟨bb,0,none⟩) (s.many.toNat+1) (s.many.toNat+1))]∧St H2 w (.blk bc (Is st.cost):: .blk bb (lA st.by_):: .blk b1 [I s.many,.slice al s.df.length cl]::σ)) ai ?_ ?_ ?_)
   ·exact .mk ⟨rfl,hs⟩
   ·rintro k fr w hk ⟨rfl,hs⟩;refine .block (.region (.z zm (.z zm (.q hs (BR (k:=tL st.by_ x.t k) rfl rfl aK bq rfl (Jn k)) (.z (zfa dQ) (.q hs (eG rfl aj (.there .here) (we (j:=0) (by rw [Dw];exact Jn k) eu)) ?_))))));exact .zn zg (nB (nT (.mk ⟨rfl,hs.out⟩)))
   ·rintro fr w ⟨rfl,hs⟩;obtain ⟨pd,BZ,xG,Zz⟩:=It Wr Fe (m:=s.many.toNat+2) ai;have VY:=Jn (s.many.toNat+2);generalize hz:tL st.by_ x.t (s.many.toNat+2)=z at Zz VY ⊢;have OI:=fun k=>CH Wr VY k
    refine nT (.af (.zn zg (.seq (.af (.z zm (.zn zg (.block ?_)))))));refine .loop (fun p:Nat×Value=>⟨62,[],[(9,p.2),(8,I (tL st.by_ z p.1)),(10,I z),(6,.slice (some ⟨bb,0,none⟩) (s.many.toNat+1) (s.many.toNat+1))]⟩)
     (fun p w=>p.1<pd∧∃en,cU 1 p.2 (Is (CQ st.by_ z p.1)) en∧St H2 w (en:: .blk bc (Is st.cost):: .blk bb (lA st.by_):: .blk b1 [I s.many,.slice al s.df.length cl]::σ))
     (fun p=>pd - p.1) (0,.slice none 0 0) aH
     ⟨ai,_,.nil 1 none,hs.nul⟩ ?_
    rintro ⟨k,v9⟩ w ⟨hk,en,hO,hs⟩;dsimp only at hk hO ⊢;refine .block (.af (.z zm (.z zm (.z zm (.q hs (BR (k:=tL st.by_ z k) rfl rfl aK bq rfl (OI k)) (.z (zfa eN) (.q hs (eG rfl aj (.there (.there .here)) (we (j:=3) (by rw [Dw];exact OI k) eu)) ?_)))))));refine .o (.buildSlice (cells:=[_]) hs cV rfl rfl fun Yu w hs=>?_);refine .o (.append (ys:=[I (ga st.by_ (tL st.by_ z k)).l]) hs cA rfl rfl hO (.own .here rfl rfl) (by simp [Value.oneCell']) (fun l' h=>by simp [CQ] at h;omega) ?_);intro v50 en50 w dY hs;refine .zn zg (.af (.z zm (.z zm (.q hs (BR (k:=tL st.by_ z k) rfl rfl aK bq rfl (OI k)) (.z (zfa dQ) (.q hs (eG rfl aj (by repeat (first|exact .here|refine .there ?_)) (we (j:=0) (by rw [Dw];exact OI k) eu)) ?_))))));refine .zn zg (.af (.z zm (.z zm (.zn fy (.bh rfl (fun Bn=>?_) (fun Bn=>?_))))))
    ·refine .exit (xN (xT (xB (nT (.af (.z zm ?_))))));have ic:cU 1 v50 (Is (CQ st.by_ z (k+1))) en50:=by rw [BX];simpa [Is] using dY
     have hkz:tL st.by_ z (k+1)=z:=by
      have h3:((ga st.by_ (tL st.by_ z k)).f:Int)=z:=by simpa using Bn
      show (ga st.by_ (tL st.by_ z k)).f=z;omega
     refine .o (.call call270 rfl (ot hs ic (by rw [rK];omega)) ?_);rintro _ w ⟨kO,qT,hs⟩;refine .nil (.af (.z zm (.z zg (.zn zg (.ret (Fin.gU results221 rfl rfl ?_))))));obtain ⟨H3,bZ,hRI,hs⟩:=cU.dR qT (by rw [List.length_reverse,rK];omega) hs .here;exact ⟨H3,_,_,0,az.trans (bg.trans bZ),rfl,hRI,.chain aZ S5 (by rw [hn];exact RE) (by rw [hn];exact hz.symm) ai ai hkz rfl,hs.sb⟩
    ·refine .skip (nB (nT ?_));exact ⟨(k+1,v50),aH,⟨by
      dsimp only;have:k+1≠pd:=fun e=>Bn (congrArg (Nat.cast:Nat→Int) (show tL st.by_ z (k+1)=z by rw [e];exact Zz))
      omega,en50,by rw [BX];simpa [Is] using dY,hs.sb⟩,by dsimp only;omega⟩
structure LY(s:dv)(x:List Int):Prop where
 len:x.length=s.n
 zero:gi x 0=0
 free:∀v<s.n,-1000000000≤gi x v∧gi x v≤1000000000
 Bs:ja s.dG (gi x)
theorem mF{w:World}{v:Value}{s:dv}(hs:St H w σ)(hr:RSy H v s):
  aaR 147 [v] w fun u w'=>∃H1 vt e,HLe H H1∧u= .tuple #[vt,I e]∧((s.check≠0∧e=s.check∧vt= .slice none 0 0)∨(s.Ok∧¬s.Sound∧e=23∧vt= .slice none 0 0)∨(s.Ok∧s.Sound∧e=0∧∃rs,RT H1 vt rs∧Sq s.n rs∧kF s.n s.dG (gt rs)))∧St H1 w' σ:=by
 obtain ⟨ul,rfl,hl⟩:=hr;obtain ⟨al,cl,rfl⟩:=RL.shape hl;refine Cl.o func147 ntmps147 ag1 ?_;refine .af (.bx hs fun b1 w hs=>?_);refine .z zg (.zn zg (.af (.y hs (zls [_,_] cn aV) (.o (.call call206 rfl (qp (s:=s) hs ⟨_,rfl,hl⟩) ?_)))));rintro _ w ⟨rfl,hs⟩;refine .zn zg (.seq (.af (.z zm (.zn fV (.dK rfl (fun nv=>?_) (fun nv=>?_))))))
 ·exact .af (.z zm (.z zg (.zn zg (.ret (rT (Fin.gU results147 rfl rfl ⟨H,_,_,HLe.refl H,rfl,.inl ⟨nv,rfl,rfl⟩,hs.out⟩))))))
 ·refine .skip (nT (.af (.y hs (zls [_,_] cn aV) ?_)));have aZ:s.Ok:=s.dX.1 (by simpa using nv);have Jo:=aZ.m1;refine .o (.call call207 rfl (rC (s:=s) hs ⟨_,rfl,hl⟩ aZ) ?_);rintro v12 w ⟨H1,rs,az,yG,RQ,TX,hs⟩;obtain ⟨at',ct,rfl⟩:=yG.shape;refine .zn zg (.seq (.af (.z zm (.o (.call call208 rfl (qo hs yG RQ (by simp only [dv.n];omega)) ?_)))));rintro _ w ⟨b,rfl,hb,hs⟩;have aag:=hb.trans (BL aZ TX).symm;refine .zn fU (.cond rfl (fun e7=>?_) (fun e7=>?_))
  ·exact .af (.z zg (.zn zg (.ret (rT (Fin.gU results147 rfl rfl ⟨H1,_,_,az,rfl,.inr (.inl ⟨aZ,fun h=>by simp [aag.2 h] at e7,rfl,rfl⟩),hs.out⟩)))))
  ·exact .skip (nT (.af (.z zm (.z zg (.zn zg (.ret (Fin.gU results147 rfl rfl ⟨H1,_,_,az,rfl,.inr (.inr ⟨aZ,aag.1 (by simpa using e7),rfl,rs,yG,RQ,TX⟩),hs.out⟩)))))))
inductive Vw(s:dv)(x:List Int):Int→Prop
 |bad (h:s.check≠0):Vw s x s.check
 |off (h:s.Ok) (h1:¬LY s x):Vw s x 25
 |ok (h:s.Ok) (h1:LY s x):Vw s x 0
theorem Dk{w:World}{v:Value}{ls:List Int}{q:Int→Prop}(hs:St H w σ)(hr:RI H v ls)
  (hc:∀args w,(callFunc g args).run Tryz.prog w= .ok (.enter g args) w) (hp:∀w l,St H w σ→aaR g ([I l]++cap) w fun u w'=>∃b,u= .bool b∧(b=true↔q l)∧St H w' σ):
  aaR 228 [v,.func (.func g) #[] cap.toArray] w fun u w'=>∃i,u=I i∧(0≤i↔∃p∈ls,q p)∧St H w' σ:=by
 obtain ⟨a,c,rfl⟩:=RI.shape hr;have hl:=(RI.len hr).2.2;refine Cl.o func228 ntmps228 ag2 ?_;refine .af (.zn zg (.seq (.af (.z zm (.z (de ae) (.zn zm (.for (N:=ls.length) (J:=fun k fr w=>fr=[(1,.func (.func g) #[] cap.toArray),(0,.slice a ls.length c)]∧St H w σ∧∀j<k,∀l,ls[j]? =some l→¬q l) ai ?_ ?_ ?_)))))))
 ·exact .mk ⟨rfl,hs,fun j hj=>by omega⟩
 ·rintro k fr w hk ⟨rfl,hs,eE⟩;obtain ⟨l,hl⟩:=nth hk;refine .block (.af (.z zm (.zn zg (.af (.z zm (.z zm (.z zm ?_)))))));first|(refine .ixv hs ae an ?_;intro oh o14 jH)|refine .z (zix ae an) ?_
  refine .y hs (zld aj) (.o (.sa (first:=[]) rfl rfl hc (hp _ _ hs) ?_));rintro _ w ⟨nx,rfl,rP,hs⟩;refine .nil (.cond rfl (fun eC=>?_) (fun eC=>?_))
  ·exact .af (.z zm (.zn zg (.ret (rB (rT (rB (rT (Fin.bj On rfl ⟨_,rfl,⟨fun _=>⟨l,List.mem_of_getElem? hl,rP.1 eC⟩,fun _=>by omega⟩,hs⟩))))))))
  ·exact .skip (nB (nT (.mk ⟨rfl,hs,fH eE hl (fun h=>by rw [rP.2 h] at eC;cases eC)⟩)))
 ·rintro fr w ⟨rfl,hs,eE⟩;refine nT (.af (.zn zg (.ret (Fin.bj On rfl ?_))));exact ⟨_,rfl,⟨fun h=>by omega,fun ⟨p,h1,h2⟩=>by
   obtain ⟨j,hj⟩:=List.getElem?_of_mem h1;exact (eE j (List.getElem?_eq_some_iff.1 hj).1 p hj h2).elim⟩,hs⟩
theorem yO{w:World}{v:Value}{ls:List Int}{q:Int→Prop}(hs:St H w σ)(hr:RI H v ls)
  (hc:∀args w,(callFunc g args).run Tryz.prog w= .ok (.enter g args) w) (hp:∀w l,St H w σ→aaR g ([I l]++cap) w fun u w'=>∃b,u= .bool b∧(b=true↔q l)∧St H w' σ):
  aaR 185 [v,.func (.func g) #[] cap.toArray] w fun u w'=>∃b,u= .bool b∧(b=true↔∃p∈ls,q p)∧St H w' σ:=by
 refine Cl.o func185 ntmps185 ag2 ?_;refine .af (.zn zg (.af (.z zm (.z zm (.o (.call call228 rfl (Dk hs hr hc hp) ?_))))));rintro _ w ⟨i,rfl,hi,hs⟩;exact .z xv (.zn zg (.ret (Fin.bj results185 rfl ⟨_,rfl,by simp only [decide_eq_true_eq];exact hi,hs⟩)))
theorem vS{w:World}{n:Int}(hs:St H w σ):aaR 198 [I n] w fun v w'=>∃b,v= .bool b∧(b=true↔¬(-1000000000≤n∧n≤1000000000))∧St H w' σ:=by
 refine Cl.o func198 ntmps198 ag1 ?_;refine .af (.zn zg (.af (.z zm (.o (.call call199 rfl (gI hs) ?_)))));rintro _ w ⟨rfl,hs⟩;exact .z fU (.zn zg (.ret (Fin.bj results198 rfl ⟨_,rfl,by simp;omega,hs⟩)))
theorem sd{w:World}{v:Value}{s:dv}{x:List Int}(hs:St H w σ)(hr:RSy H v s)(hx:RI H vx x):
  aaR 134 [v,vx] w fun u w'=>∃e,u=I e∧Vw s x e∧St H w' σ:=by
 obtain ⟨ul,rfl,hl⟩:=hr;obtain ⟨al,cl,rfl⟩:=RL.shape hl;obtain ⟨ax,cx,rfl⟩:=RI.shape hx;refine Cl.o func134 ntmps134 ag2 ?_;refine .af (.bx hs fun b2 w hs=>?_);refine .zn zg (.seq (.af (.y hs (zls [_,_] cn aV) (.o (.call call197 rfl (ku (s:=s) hs ⟨_,rfl,hl⟩) ?_)))));rintro _ w ⟨rfl,hs⟩;refine .zn zg (.af (.z zm (.zn fV ?_)))
 skip
 refine (.dK rfl (fun pL=>?_) (fun pL=>?_))
 ·exact .af (.z zm (.zn zg (.ret (rT (Fin.bj Ot rfl ⟨_,rfl,.bad pL,hs.out⟩)))))
 ·refine .skip (nT (.seq (.af ?_)));have aZ:s.Ok:=s.dX.1 (by simpa using pL);have Fh:=aZ.m0;have Jo:=aZ.m1;have wq:=aZ.len;have Hi:(s.n:Int)=s.many+1:=by simp only [dv.n];omega
  refine .z zm (.z (de ae) (.z (zfa cz) (.y hs (zld aj) (.z cH (.z fV (.z zm (.EX (t':=19) rfl (fun CY=>?_) (fun CY=>?_))))))))
  ·refine .Fs 4 6 false (.z zpT (.z zm (.Fs 2 12 false (.zn zpT (.cT (.af (.zn zg (.ret (rT (Fin.bj Ot rfl ?_))))))))));first
    |exact ⟨_,rfl,.ok aZ ⟨ai,by first|omega|(simpa using Av),fun v hv=>pJ v ai,gP.2 fun y hy=>by
      obtain ⟨i,hi⟩:=List.getElem?_of_mem hy;exact h1 i (List.getElem?_eq_some_iff.1 hi).1 y hi⟩,hs.out⟩
    |exact ⟨_,rfl,.off aZ (fun h=>by have:=h.len;omega),hs.out⟩
    |exact ⟨_,rfl,.off aZ (fun h=>by have:=h.zero;first|omega|(simp at Av;omega)),hs.out⟩
    |exact ⟨_,rfl,.off aZ (fun h=>by
      obtain ⟨p,h1,h2⟩:=vD.1 kR;obtain ⟨i,hi⟩:=List.getElem?_of_mem h1;have pI:=(List.getElem?_eq_some_iff.1 hi).1;have:=bu pI;rw [hi] at this;cases this
      exact h2 (h.free i (by have:=h.len;omega))),hs.out⟩
    |exact ⟨_,rfl,.off aZ (fun h=>by
      have h8:=gP.1 h.Bs y (List.mem_of_getElem? hy);omega),hs.out⟩
  ·refine .T (.z zm (.T (.ixX (enc:=fun x=>[I x]) hs hx rfl rfl ae an (bu (l:=x) (i:=0) ai) rfl ?_)));intro uf o21 iC;replace iC:=bD.one iC;refine .T (.y hs (zld aj) (.T (.z fV (.z zpF (.z zm (.EX (t':=25) rfl (fun Av=>?_) (fun Av=>?_)))))))
   ·refine .Fs 2 12 false (.zn zpT (.cT (.af (.zn zg (.ret (rT (Fin.bj Ot rfl ?_)))))));first
     |exact ⟨_,rfl,.ok aZ ⟨ai,by first|omega|(simpa using Av),fun v hv=>pJ v ai,gP.2 fun y hy=>by
       obtain ⟨i,hi⟩:=List.getElem?_of_mem hy;exact h1 i (List.getElem?_eq_some_iff.1 hi).1 y hi⟩,hs.out⟩
     |exact ⟨_,rfl,.off aZ (fun h=>by have:=h.len;omega),hs.out⟩
     |exact ⟨_,rfl,.off aZ (fun h=>by have:=h.zero;first|omega|(simp at Av;omega)),hs.out⟩
     |exact ⟨_,rfl,.off aZ (fun h=>by
       obtain ⟨p,h1,h2⟩:=vD.1 kR;obtain ⟨i,hi⟩:=List.getElem?_of_mem h1;have pI:=(List.getElem?_eq_some_iff.1 hi).1;have:=bu pI;rw [hi] at this;cases this
       exact h2 (h.free i (by have:=h.len;omega))),hs.out⟩
     |exact ⟨_,rfl,.off aZ (fun h=>by
       have h8:=gP.1 h.Bs y (List.mem_of_getElem? hy);omega),hs.out⟩
   ·refine .T (.z zm (.T (.o (.call call185 rfl (yO (q:=fun n=>¬(-1000000000≤n∧n≤1000000000)) (cap:=[]) hs hx call198 (fun w n hs=>vS hs)) ?_))));rintro _ w ⟨AK,rfl,vD,hs⟩;refine .zn zpF (.cond rfl (fun kR=>?_) (fun kR=>?_))
    ·refine .af (.zn zg (.ret (rT (Fin.bj Ot rfl ?_))));first
      |exact ⟨_,rfl,.ok aZ ⟨ai,by first|omega|(simpa using Av),fun v hv=>pJ v ai,gP.2 fun y hy=>by
        obtain ⟨i,hi⟩:=List.getElem?_of_mem hy;exact h1 i (List.getElem?_eq_some_iff.1 hi).1 y hi⟩,hs.out⟩
      |exact ⟨_,rfl,.off aZ (fun h=>by have:=h.len;omega),hs.out⟩
      |exact ⟨_,rfl,.off aZ (fun h=>by have:=h.zero;first|omega|(simp at Av;omega)),hs.out⟩
      |exact ⟨_,rfl,.off aZ (fun h=>by
        obtain ⟨p,h1,h2⟩:=vD.1 kR;obtain ⟨i,hi⟩:=List.getElem?_of_mem h1;have pI:=(List.getElem?_eq_some_iff.1 hi).1;have:=bu pI;rw [hi] at this;cases this
        exact h2 (h.free i (by have:=h.len;omega))),hs.out⟩
      |exact ⟨_,rfl,.off aZ (fun h=>by
        have h8:=gP.1 h.Bs y (List.mem_of_getElem? hy);omega),hs.out⟩
    ·refine .skip (nT (.seq (.af (.z (zfa cO) (.y hs (zld gz) (.z (de aO) (.zn zm (.for (N:=s.df.length) (J:=fun k fr w=>fr=[(30,.slice al s.df.length cl),(1,.slice ax x.length cx)]∧(∀i<k,∀y,s.df[i]? =some y→gi x y.B.toNat≤gi x y.A.toNat+y.M)∧St H w (.blk b2 [I s.many,.slice al s.df.length cl]::σ)) ai ?_ ?_ ?_))))))))
     ·exact .mk ⟨rfl,fun i hi=>by omega,hs⟩
     ·have pJ:∀v<x.length,-1000000000≤gi x v∧gi x v≤1000000000:=fun v hv=>by
       apply Classical.byContradiction;intro h;have:=vD.2 ⟨gi x v,List.mem_of_getElem? (bu hv),h⟩;subst this;simp at kR
      rintro k fr w hk ⟨rfl,h1,hs⟩;obtain ⟨y,hy⟩:=nth hk;obtain ⟨⟨y1,y2⟩,⟨y3,y4⟩,y5,y6,-⟩:=aZ.lim y (List.mem_of_getElem? hy);have z1:=pJ y.B.toNat ai;have z2:=pJ y.A.toNat ai;refine .block (.af (.ixX (enc:=Lim.c) hs hl rfl rfl aO bU hy rfl ?_));intro Pz o34 jx;refine .q hs (bQ (vs:=y.c) rfl lG bU jx) (.o (.alloc hs iS rfl fun b7 w hs=>?_));refine .o (.aE (vs:=y.c) hs rfl rfl bU fun w hs=>?_);refine .nil (.seq (.draw mix rfl hs fun w hs=>?_));refine .zw 0 rfl zm ?_;refine .z 1 rfl (zfa ed) ?_;refine .y 2 rfl hs aj ?_;refine .ixX (enc:=fun x=>[I x]) (i:=3) hs rfl aA .none hx rfl rfl ae an (bu (l:=x) (i:=y.B.toNat) ai) ai ?_;intro Py o39 kd;replace kd:=bD.one kd;refine .r (i:=4) hs rfl aA .none (aC rfl aj kd) ?_;refine .zw 5 rfl zm ?_;refine .z 6 rfl (zfa dS) ?_;refine .y 7 rfl hs aj ?_;refine .ixX (enc:=fun x=>[I x]) (i:=8) hs rfl aA .none hx rfl rfl ae an (bu (l:=x) (i:=y.A.toNat) ai) ai ?_;intro b44 o44 vC;replace vC:=bD.one vC;refine .r (i:=9) hs rfl aA .none (aC rfl aj vC) ?_;refine .zw 10 rfl gx ?_;refine .z 11 rfl (zfa eZ) ?_;refine .y 12 rfl hs aj ?_;refine .z 13 rfl kU ?_;refine .D hs ?_;refine (.bh rfl (fun sX=>?_) (fun sX=>?_))
      ·refine .af (.zn zg (.ret (rB (rT (rB (rT (Fin.bj Ot rfl ?_)))))));first
        |exact ⟨_,rfl,.ok aZ ⟨ai,by first|omega|(simpa using Av),fun v hv=>pJ v ai,gP.2 fun y hy=>by
          obtain ⟨i,hi⟩:=List.getElem?_of_mem hy;exact h1 i (List.getElem?_eq_some_iff.1 hi).1 y hi⟩,hs.out⟩
        |exact ⟨_,rfl,.off aZ (fun h=>by have:=h.len;omega),hs.out⟩
        |exact ⟨_,rfl,.off aZ (fun h=>by have:=h.zero;first|omega|(simp at Av;omega)),hs.out⟩
        |exact ⟨_,rfl,.off aZ (fun h=>by
          obtain ⟨p,h1,h2⟩:=vD.1 kR;obtain ⟨i,hi⟩:=List.getElem?_of_mem h1;have pI:=(List.getElem?_eq_some_iff.1 hi).1;have:=bu pI;rw [hi] at this;cases this
          exact h2 (h.free i (by have:=h.len;omega))),hs.out⟩
        |exact ⟨_,rfl,.off aZ (fun h=>by
          have h8:=gP.1 h.Bs y (List.mem_of_getElem? hy);omega),hs.out⟩
      ·refine .skip (nB (nT ?_));exact .mk ⟨rfl,fun i hi z hz=>by
        by_cases e:i=k
        ·subst e;rw [hy] at hz;cases hz;omega
        ·exact h1 i ai z hz,hs.out⟩
     ·have pJ:∀v<x.length,-1000000000≤gi x v∧gi x v≤1000000000:=fun v hv=>by
       apply Classical.byContradiction;intro h;have:=vD.2 ⟨gi x v,List.mem_of_getElem? (bu hv),h⟩;subst this;simp at kR
      rintro fr w ⟨rfl,h1,hs⟩;refine nT (.af (.zn zg (.ret (Fin.bj Ot rfl ?_))));first
       |exact ⟨_,rfl,.ok aZ ⟨ai,by first|omega|(simpa using Av),fun v hv=>pJ v ai,gP.2 fun y hy=>by
         obtain ⟨i,hi⟩:=List.getElem?_of_mem hy;exact h1 i (List.getElem?_eq_some_iff.1 hi).1 y hi⟩,hs.out⟩
       |exact ⟨_,rfl,.off aZ (fun h=>by have:=h.len;omega),hs.out⟩
       |exact ⟨_,rfl,.off aZ (fun h=>by have:=h.zero;first|omega|(simp at Av;omega)),hs.out⟩
       |exact ⟨_,rfl,.off aZ (fun h=>by
         obtain ⟨p,h1,h2⟩:=vD.1 kR;obtain ⟨i,hi⟩:=List.getElem?_of_mem h1;have pI:=(List.getElem?_eq_some_iff.1 hi).1;have:=bu pI;rw [hi] at this;cases this
         exact h2 (h.free i (by have:=h.len;omega))),hs.out⟩
       |exact ⟨_,rfl,.off aZ (fun h=>by
         have h8:=gP.1 h.Bs y (List.mem_of_getElem? hy);omega),hs.out⟩
end Go.Proofs.YteajddicacjkhaaGreat
namespace Go.Proofs
open Go.Shelf
def Tryz.FL:Go.Shelf.Ren:=⟨fun|189=>303|125=>311|257=>310|128=>323|129=>324|294=>314|295=>315|296=>316|297=>317|298=>318|299=>319|216=>320|300=>321|301=>322|328=>325|329=>326|330=>327|331=>328|332=>329|215=>330|343=>331|n=>n,fun|28=>34|3=>3|46=>260|0=>0|51=>340|53=>343|4=>4|183=>348|182=>347|131=>165|5=>5|9=>9|218=>354|222=>358|228=>360|229=>293|n=>n,fun|n=>n⟩
theorem Tryz.Ku:Go.Proofs.Lays.n189 Tryz.prog Tryz.FL:={
 mixed:=by kernel_rfl
 f125:=Tryz.func311.trans (congrArg some (by kernel_rfl))
 f128:=Tryz.func323.trans (congrArg some (by kernel_rfl))
 f129:=Tryz.func324.trans (congrArg some (by kernel_rfl))
 f189:=Tryz.func303.trans (congrArg some (by kernel_rfl))
 f215:=Tryz.func330.trans (congrArg some (by kernel_rfl))
 f216:=Tryz.func320.trans (congrArg some (by kernel_rfl))
 f257:=Tryz.func310.trans (congrArg some (by kernel_rfl))
 f294:=Tryz.func314.trans (congrArg some (by kernel_rfl))
 f295:=Tryz.func315.trans (congrArg some (by kernel_rfl))
 f296:=Tryz.func316.trans (congrArg some (by kernel_rfl))
 f297:=Tryz.func317.trans (congrArg some (by kernel_rfl))
 f298:=Tryz.func318.trans (congrArg some (by kernel_rfl))
 f299:=Tryz.func319.trans (congrArg some (by kernel_rfl))
 f300:=Tryz.func321.trans (congrArg some (by kernel_rfl))
 f301:=Tryz.func322.trans (congrArg some (by kernel_rfl))
 f328:=Tryz.func325.trans (congrArg some (by kernel_rfl))
 f329:=Tryz.func326.trans (congrArg some (by kernel_rfl))
 f330:=Tryz.func327.trans (congrArg some (by kernel_rfl))
 f331:=Tryz.func328.trans (congrArg some (by kernel_rfl))
 f332:=Tryz.func329.trans (congrArg some (by kernel_rfl))
 f343:=Tryz.func331.trans (congrArg some (by kernel_rfl))
 t0:=Tryz.underlying0
 a0:=Tryz.isAgg0
 z0:=Tryz.sizeOf0
 v0:=Tryz.zeroValue0
 t3:=Tryz.underlying3
 a3:=Tryz.isAgg3
 z3:=Tryz.sizeOf3
 v3:=Tryz.zeroValue3
 t4:=Tryz.underlying4
 a4:=Tryz.isAgg4
 z4:=Tryz.sizeOf4
 v4:=Tryz.zeroValue4
 t5:=Tryz.underlying5
 a5:=Tryz.isAgg5
 z5:=Tryz.sizeOf5
 v5:=Tryz.zeroValue5
 t9:=Tryz.underlying9
 a9:=Tryz.isAgg9
 z9:=Tryz.sizeOf9
 v9:=Tryz.zeroValue9
 t28:=Tryz.underlying34
 a28:=Tryz.isAgg34
 z28:=Tryz.sizeOf34
 v28:=Tryz.zeroValue34
 t46:=Tryz.underlying260
 a46:=Tryz.isAgg260
 z46:=Tryz.sizeOf260
 v46:=Tryz.zeroValue260
 t51:=Tryz.underlying340
 a51:=Tryz.isAgg340
 z51:=Tryz.sizeOf340
 v51:=Tryz.zeroValue340
 t53:=Tryz.underlying343
 a53:=Tryz.isAgg343
 z53:=Tryz.sizeOf343
 v53:=Tryz.zeroValue343
 t131:=Tryz.underlying165
 a131:=Tryz.isAgg165
 z131:=Tryz.sizeOf165
 v131:=Tryz.zeroValue165
 t182:=Tryz.underlying347
 a182:=Tryz.isAgg347
 z182:=Tryz.sizeOf347
 v182:=Tryz.zeroValue347
 t183:=Tryz.underlying348
 a183:=Tryz.isAgg348
 z183:=Tryz.sizeOf348
 v183:=Tryz.zeroValue348
 t218:=Tryz.underlying354
 a218:=Tryz.isAgg354
 z218:=Tryz.sizeOf354
 v218:=Tryz.zeroValue354
 t222:=Tryz.underlying358
 a222:=Tryz.isAgg358
 z222:=Tryz.sizeOf358
 v222:=Tryz.zeroValue358
 t228:=Tryz.underlying360
 a228:=Tryz.isAgg360
 z228:=Tryz.sizeOf360
 v228:=Tryz.zeroValue360
 t229:=Tryz.underlying293
 a229:=Tryz.isAgg293
 z229:=Tryz.sizeOf293
 v229:=Tryz.zeroValue293}
def Tryz.Ec:Go.Shelf.Ren:=⟨fun|20=>304|n=>n,fun|22=>34|3=>3|4=>4|0=>0|n=>n,fun|n=>n⟩
theorem Tryz.G8:Go.Proofs.Lays2.n20 Tryz.prog Tryz.Ec:={
 mixed:=by kernel_rfl
 f20:=Tryz.func304.trans (congrArg some (by kernel_rfl))
 t0:=Tryz.underlying0
 a0:=Tryz.isAgg0
 z0:=Tryz.sizeOf0
 v0:=Tryz.zeroValue0
 t3:=Tryz.underlying3
 a3:=Tryz.isAgg3
 z3:=Tryz.sizeOf3
 v3:=Tryz.zeroValue3
 t4:=Tryz.underlying4
 a4:=Tryz.isAgg4
 z4:=Tryz.sizeOf4
 v4:=Tryz.zeroValue4
 t22:=Tryz.underlying34
 a22:=Tryz.isAgg34
 z22:=Tryz.sizeOf34
 v22:=Tryz.zeroValue34
 i3:=by kernel_rfl}
end Go.Proofs
namespace Go.Proofs.YteajddicacjkhaaGreat
open Go.Sort Go.RowKit
theorem Mu(blk off cap:Nat)(zs:List Int)(w:World)(hH:Holds (Value.int .i64) w blk off zs.toArray)(Xu:blk<w.heap.size)(wm:zs.length<4611686018427387904):
  Calls Tryz.prog 303 #[.slice (some ⟨blk,off,none⟩) zs.length cap] w fun e w'=>e= .returned (.tuple #[])∧∃n os,w'=grow (putRow (Value.int .i64) (Sort.ahead w n) blk off (zs.mergeSort fun x y=>decide (x≤y)).toArray) os:=
 Any.slices_Sort_int Tryz.Ku blk off cap zs w hH Xu wm
theorem Cw(p:Option Addr)(cap:Nat)(w:World):Calls Tryz.prog 303 #[.slice p 0 cap] w fun e w'=>e= .returned (.tuple #[])∧w'=w:=
 Any.slices_Sort_int_none Tryz.Ku p cap w
theorem Fv(blk off cap:Nat)(zs:List Int)(w:World)(hH:Holds (Value.int .i64) w blk off zs.toArray)(wm:zs.length≤9223372036854775807)(yB:zs.length≤cap):
  Calls Tryz.prog 304 #[.slice (some ⟨blk,off,none⟩) zs.length cap] w fun e w'=>e= .returned (.slice (some ⟨blk,off,none⟩) (Lib.compact zs).length cap)∧∃q,w'=putRow (Value.int .i64) (Sort.ahead w q) blk off (Lib.compact zs++List.replicate (zs.length - (Lib.compact zs).length) 0).toArray:=
 Any.slices_Compact_int Tryz.G8 blk off cap zs w hH wm yB
theorem xU(p:Option Addr)(cap:Nat)(w:World):Calls Tryz.prog 304 #[.slice p 0 cap] w fun e w'=>e= .returned (.slice p 0 cap)∧w'=w:=
 Any.slices_Compact_int_empty Tryz.G8 p cap w
end Go.Proofs.YteajddicacjkhaaGreat
namespace Go.Proofs.YteajddicacjkhaaGreat
open Go.MW Tryz
variable{H:cu}{σ:List Ent}{a0 a1 a2 x most a hi lo f d e z1 z2 z3:Int}{l:Lns}{ls:List Lim}{g b k bf bt bl cl i j bm:Nat}{cap sp:List Value}{s:Spc}{xs ts lf ws L X Y l1 l2 sl pk ks dC:List Int}{en:Ent}{vl vt vp vw vm vx v1 v2 cE cB vr vc vh vs v5 v4 fX:Value}{m:Rng}{Ms rows:List (List Int)}{t:TD}{high:Bool}{ie:List F5}{ir:List F4}
theorem xW{w:World}{v:Value}{ls:List Int}(hs:St H w σ)(hr:RI H v ls):
  aaR 305 [v,I x] w fun u w'=>∃i,u=I i∧(0≤i↔x∈ls)∧St H w' σ:=by
 obtain ⟨a,c,rfl⟩:=RI.shape hr;have hl:=(RI.len hr).2.2;refine Cl.o func305 ntmps305 ag2 ?_;refine .af (.zn zg (.seq (.af (.z zm (.z (de ae) (.zn zm (.for (N:=ls.length) (J:=fun k fr w=>fr=[(1,I x),(0,.slice a ls.length c)]∧St H w σ∧∀j<k,∀y,ls[j]? =some y→¬x=y) ai ?_ ?_ ?_)))))))
 ·exact .mk ⟨rfl,hs,fun j hj=>by omega⟩
 ·rintro k fr w hk ⟨rfl,hs,eE⟩;obtain ⟨y,hy⟩:=nth hk;refine .block (.af (.z zm (.zn zg (.af (.z zm (.z zm (.z zm (.ixY hs hr rfl rfl ae an hy rfl ?_))))))));intro oh o14 jH;refine .q hs (aC rfl aj jH) (.zn fy (.bh rfl (fun eC=>?_) (fun eC=>?_)))
  ·exact .af (.z zm (.zn zg (.ret (rB (rT (rB (rT (Fin.bj results305 rfl ⟨_,rfl,⟨fun _=>by rw [eC];exact List.mem_of_getElem? hy,fun _=>by omega⟩,hs⟩))))))))
  ·exact .skip (nB (nT (.mk ⟨rfl,hs,fH eE hy eC⟩)))
 ·rintro fr w ⟨rfl,hs,eE⟩;refine nT (.af (.zn zg (.ret (Fin.bj results305 rfl ?_))));exact ⟨_,rfl,⟨fun h=>by omega,fun h=>by
   obtain ⟨j,hj⟩:=List.getElem?_of_mem h;exact (eE j (List.getElem?_eq_some_iff.1 hj).1 x hj rfl).elim⟩,hs⟩
theorem tC{w:World}{v:Value}{ls:List Int}(hs:St H w σ)(hr:RI H v ls):
  aaR 294 [v,I x] w fun u w'=>u= .bool (decide (x∈ls))∧St H w' σ:=by
 refine Cl.o func294 ntmps294 ag2 ?_;refine .af (.zn zg (.af (.z zm (.z zm (.o (.call call305 rfl (xW hs hr) ?_))))));rintro _ w ⟨i,rfl,hi,hs⟩;exact .z xv (.zn zg (.ret (Fin.bj results294 rfl ⟨by simp only [hi],hs⟩)))
set_option maxHeartbeats 1000000 in
theorem AF{w:World}{v:Value}{s:dv}(q:Nat→Lim→Bool)(hs:St H w σ)(hr:RSy H v s)(hlen:s.df.length≤4398046510976)(hc:∀args w,(callFunc g args).run Tryz.prog w= .ok (.enter g args) w)
  (hp:∀w σ (k:Nat) (l:Lim),s.df[k]? =some l→St H w σ→aaR g ([I k,.agg l.c.toArray]++cap) w fun u w'=>u= .bool (q k l)∧St H w' σ):
  aaR 292 [v,.func (.func g) #[] cap.toArray] w fun u w'=>∃H1,HLe H H1∧RSy H1 u ⟨s.many,mY q s.df s.df.length⟩∧St H1 w' σ:=by
 obtain ⟨ul,rfl,hl⟩:=hr;obtain ⟨al,cl,rfl⟩:=RL.shape hl;refine Cl.o func292 ntmps292 ag2 ?_;refine .af (.bx hs fun b2 w hs=>?_);refine .o (.alloc hs fk rfl fun b4 w hs=>?_);refine .nil (.af (.z (zfa cz) (.y hs (zld aj) (.z (zbd [_,_] kl) (.o (.alloc hs fk rfl fun b5 w hs=>?_))))));refine .o (.aE (vs:=[_,_]) hs rfl rfl aV fun w hs=>?_);refine .nil (.seq (.af (.z (zfa cO) (.y hs (zld gz) (.z (de aO) (.zn zm (.for (N:=s.df.length) (J:=fun k fr w=>fr=[(12,.slice al s.df.length cl),(1,.func (.func g) #[] cap.toArray),(5,Pt b5),(4,Pt b4)]∧∃vL en,cU 4 vL (jf (mY q s.df k)) en∧St H w (.blk b5 [I s.many,vL]:: .blk b4 [I 0,.slice none 0 0]::en::σ)) ai ?_ ?_ ?_)))))))
 ·exact .mk ⟨rfl,_,_,.nil 4 none,hs.nul.sb⟩
 ·rintro k fr w hk ⟨rfl,vL,en,hO,hs⟩;obtain ⟨x,hx⟩:=nth (l:=s.df) hk;obtain ⟨aL,lL,cL,rfl,hL⟩:=hO.shape;have Jn:=p6 q s.df k;refine .block (.af (.z zm (.ixX hs hl rfl rfl aO bU hx rfl ?_)));intro AL o17 iW;refine .q hs (bQ (vs:=x.c) rfl lG bU iW) (.o (.alloc hs iS rfl fun b7 w hs=>?_));refine .z zg (.o (.aE (vs:=x.c) hs rfl rfl bU fun w hs=>?_));refine .nil (.af (.z zm (.z zm (.y hs (zls [_,_,_,_] lG bU) (.o (.sa (first:=[]) (cap:=cap) rfl rfl hc (hp _ _ k x hx hs) ?_))))));rintro _ w ⟨rfl,hs⟩;refine .nil (.cond rfl (fun jm=>?_) (fun jm=>?_))
  ·refine .region (.z (zfa cO) (.y hs (zld gz) (.y hs (zls [_,_,_,_] lG bU) (.o (.buildSlice (cells:=x.c) hs vT rfl rfl fun Ur w hs=>?_)))));refine .o (.append (ys:=x.c) hs dk rfl rfl hO (.own .here rfl rfl) (by simp [Lim.c,Value.oneCell']) (fun l h=>by rw [fw] at h;omega) ?_);intro v27 en27 w dY hs;obtain ⟨a27,l27,c27,rfl,h27⟩:=dY.shape;refine .z (zfa cO) (.o (.store hs rfl rfl sizeOf175 fun w hs=>?_));refine .nil (nB (nT ?_));have e:mY q s.df (k+1)=mY q s.df k++[x]:=by rw [tK hx,if_pos jm]
   rw [←Og,←jS,←e] at dY;exact .mk ⟨rfl,_,_,dY,hs.sb⟩
  ·refine .skip (nB (nT ?_));have e:mY q s.df (k+1)=mY q s.df k:=by rw [tK hx,jm];simp
   exact .mk ⟨rfl,_,_,by rw [e];exact hO,hs.sb⟩
 ·rintro fr w ⟨rfl,vL,en,hO,hs⟩;obtain ⟨aL,lL,cL,rfl,hL⟩:=hO.shape;have Jn:=p6 q s.df s.df.length;refine nT (.af (.y hs (zls [_,_] cn aV) (.o (.aE (vs:=[_,_]) hs rfl rfl aV fun w hs=>?_))));refine .nil (.ret ?_);obtain ⟨H1,g1,r1,hs⟩:=cU.dh (m:=4) (cs:=(mY q s.df s.df.length).map Lim.c) hO (fun c hc=>by simp only [List.mem_map] at hc;obtain ⟨x,_,rfl⟩:=hc;rfl) ai (by rw [List.length_map];omega) hs dy;exact Fin.iT [] [] hs fun w hs=>⟨_,results1 results292 (dp (vs:=[_,_]) hs rfl cn aV),H1,g1,⟨_,rfl,r1⟩,hs.out⟩
theorem AG{w:World}{i:Int}{l:Lim}{vb:Value}{bs:List Int}(hs:St H w σ)(hb:Row H b [vb])(hr:RI H vb bs):
  aaR 293 [I i,.agg l.c.toArray,Pt b] w fun u w'=>u= .bool (!decide (l.S∈bs))∧St H w' σ:=by
 have A3:cellAt H b 0=some vb:=by rw [hb.cell];rfl
 refine Cl.o func293 ntmps293 ag3 ?_;refine .af (.bx hs fun b4 w hs=>?_);refine .zn zg (.af (.y hs (zld aq) (.z (zfa lX) (.y hs (zld aj) (.o (.call call294 rfl (tC hs hr) ?_))))));rintro _ w ⟨rfl,hs⟩;exact .z fU (.zn zg (.ret (Fin.bj results293 rfl ⟨rfl,hs.out⟩)))
theorem vR{w:World}{v vb:Value}{s:dv}{bs:List Int}(hs:St H w σ)(hr:RSy H v s)(hb:RI H vb bs)(hlen:s.df.length≤4398046510976):
  aaR 266 [v,vb] w fun u w'=>∃H1,HLe H H1∧RSy H1 u (s.wo bs)∧St H1 w' σ:=by
 obtain ⟨ul,rfl,hl⟩:=hr;obtain ⟨al,cl,rfl⟩:=RL.shape hl;obtain ⟨ab,cb,rfl⟩:=RI.shape hb;refine Cl.o func266 ntmps266 ag2 ?_;refine .af (.bx hs fun b2 w hs=>?_);refine .bx hs fun b3 w hs=>?_
 refine .o (.alloc hs fk rfl fun b4 w hs=>?_);refine .nil (.af (.y hs (zls [_,_] cn aV) (.q hs (dU (f:=[]) (c:=[_]) rfl rfl) ?_)));obtain ⟨H1,az,r3,hs⟩:=hs.dh (b:=b3) dy;refine .o (.call call292 rfl (AF (g:=293) (cap:=[Pt b3]) (s:=s) (fun _ l=> !decide (l.S∈bs)) hs ⟨_,rfl,hl.mono az⟩ hlen call293 (fun w σ k l _ hs=>AG hs r3 (hb.mono az))) ?_);rintro _ w ⟨H2,bg,⟨u7,rfl,Yc⟩,hs⟩;rw [Ir] at Yc;obtain ⟨a7,c7,rfl⟩:=RL.shape Yc;refine .o (.aE (vs:=[_,_]) hs rfl rfl aV fun w hs=>?_);exact .nil (.ret (Fin.iT [] [] hs fun w hs=>⟨_,results1 results266 (dp (vs:=[_,_]) hs rfl cn aV),H2,az.trans bg,⟨_,rfl,Yc⟩,hs.out⟩))
theorem zI{w:World}{cap:Nat}(hs:St H w (.blk b (Is xs++sp)::σ))(hl:xs.length≤17592186044416):
  aaR 303 [.slice (some ⟨b,0,none⟩) xs.length cap] w fun u w'=>u= .tuple #[]∧St H w' (.blk b (Is (xs.mergeSort fun x y=>decide (x≤y))++sp)::σ):=
 (Mu b 0 cap xs w hs.holds (hs.lt .here) ai).mono fun e w' ⟨he,m,os,hw⟩=>⟨_,he,rfl,by
  rw [hw];exact (hs.putRow (List.length_mergeSort _)).grow os⟩
theorem xV{w:World}{a:Option Addr}{cap:Nat}(hs:St H w σ):
  aaR 303 [.slice a 0 cap] w fun u w'=>u= .tuple #[]∧St H w' σ:=
 (Cw a cap w).mono fun e w' ⟨he,hw⟩=>⟨_,he,rfl,by rw [hw];exact hs⟩
theorem uG{w:World}{cap:Nat}(hs:St H w (.blk b (Is xs++sp)::σ))(hl:xs.length≤17592186044416)(yB:xs.length≤cap):
  aaR 304 [.slice (some ⟨b,0,none⟩) xs.length cap] w fun u w'=>u= .slice (some ⟨b,0,none⟩) (Go.Lib.compact xs).length cap∧St H w' (.blk b (Is (Go.Lib.compact xs)++(Is (List.replicate (xs.length - (Go.Lib.compact xs).length) 0)++sp))::σ):=
 (Fv b 0 cap xs w hs.holds ai yB).mono fun e w' ⟨he,m,hw⟩=>⟨_,he,rfl,by
  rw [hw];have h:=Go.Lib.compact_length_le xs;have:=hs.putRow (m:=m) (ys:=Go.Lib.compact xs++List.replicate (xs.length - (Go.Lib.compact xs).length) 0) (by simp;omega);have e2:Is (Go.Lib.compact xs++List.replicate (xs.length - (Go.Lib.compact xs).length) 0)=Is (Go.Lib.compact xs)++Is (List.replicate (xs.length - (Go.Lib.compact xs).length) 0):=List.map_append;rw [e2,List.append_assoc] at this;exact this⟩
theorem tD{w:World}{a:Option Addr}{cap:Nat}(hs:St H w σ):
  aaR 304 [.slice a 0 cap] w fun u w'=>u= .slice a 0 cap∧St H w' σ:=
 (xU a cap w).mono fun e w' ⟨he,hw⟩=>⟨_,he,rfl,by rw [hw];exact hs⟩
theorem Bv{w:World}{v:Value}(hs:St H w (en::σ))(hO:cU 1 v (Is xs) en)(hl:xs.length≤17592186044416):
  aaR 290 [v] w fun u w'=>∃L kO,cU 1 u (Is L) kO∧L.length≤xs.length∧ob (fun x=>x∈xs) L∧St H w' (kO::σ):=by
 rcases hO with ⟨a,rfl,h0,rfl⟩|⟨b,len,cap,sp,rfl,rfl,h3,h4,h5⟩
 ·have hx:xs=[]:=by simpa using h0
  subst hx;refine Cl.o func290 ntmps290 ag1 ?_;refine .af (.zn zg (.af (.z zm (.o (.call call303 rfl (xV hs) ?_)))));rintro _ w ⟨rfl,hs⟩;refine .nil (.af (.z zm (.o (.call call304 rfl (tD hs) ?_))));rintro _ w ⟨rfl,hs⟩;exact .zn zg (.ret (Fin.bj results290 rfl ⟨[],_,.nil 1 a,bH,.nil bH,hs.out⟩))
 ·obtain rfl:len=xs.length:=by simpa using h3.symm
  refine Cl.o func290 ntmps290 ag1 ?_;refine .af (.zn zg (.af (.z zm (.o (.call call303 rfl (zI hs hl) ?_)))));rintro _ w ⟨rfl,hs⟩;refine .nil (.af (.z zm ?_));have KK:(xs.mergeSort fun x y=>decide (x≤y)).length=xs.length:=List.length_mergeSort _;rw [←KK];refine .o (.call call304 rfl (uG hs ai ai) ?_);rintro _ w ⟨rfl,hs⟩;refine .zn zg (.ret (Fin.bj results290 rfl ?_));have Et:=Go.Lib.compact_length_le (xs.mergeSort fun x y=>decide (x≤y));have h4':xs.length+sp.length=cap:=by simpa using h4
  exact ⟨_,_,.inr ⟨b,_,cap,Is (List.replicate ((xs.mergeSort fun x y=>decide (x≤y)).length - (Go.Lib.compact (xs.mergeSort fun x y=>decide (x≤y))).length) 0)++sp,rfl,rfl,bH,by simp;omega,ai⟩,ai,Fx,hs⟩
theorem oF{w:World}{v:Value}{s:dv}(hs:St H w σ)(hr:RSy H v s)(hlen:s.df.length≤4398046510976):
  aaR 264 [v] w fun u w'=>∃L en,cU 1 u (Is L) en∧L.length≤s.df.length∧ob (R3 s.df) L∧St H w' (en::σ):=by
 obtain ⟨ul,rfl,hl⟩:=hr;obtain ⟨al,cl,rfl⟩:=RL.shape hl;refine Cl.o func264 ntmps264 ag1 ?_;refine .af (.bx hs fun b1 w hs=>?_);refine .zn zg (.af (.zn zg (.seq (.af (.z (zfa cO) (.y hs (zld gz) (.z (de aO) (.zn zm (.for (N:=s.df.length) (J:=fun k fr w=>∃v3 en,cU 1 v3 (Is ((s.df.take k).map Lim.S)) en∧fr=[(3,v3),(7,.slice al s.df.length cl)]∧St H w (en::σ)) ai ?_ ?_ ?_)))))))))
 ·exact .mk ⟨_,_,.nil 1 none,rfl,hs.nul.sb⟩
 ·rintro k fr w hk ⟨v3,en,hO,rfl,hs⟩;obtain ⟨x,hx⟩:=nth (l:=s.df) hk;obtain ⟨a3,l3,c3,rfl,h3⟩:=hO.shape;refine .block (.af (.ixX hs hl rfl rfl aO bU hx rfl ?_));intro Cd o11 pL;refine .q hs (bQ (vs:=x.c) rfl lG bU pL) (.o (.alloc hs iS rfl fun b5 w hs=>?_));refine .o (.aE (vs:=x.c) hs rfl rfl bU fun w hs=>?_);refine .nil (.region (.z zm (.z (zfa lX) (.y hs (zld aj) (.o (.buildSlice (cells:=[_]) hs cV rfl rfl fun nx w hs=>?_))))));refine .o (.append (ys:=Is [x.S]) hs cA rfl rfl hO (.own .here rfl rfl) (iP _) (fun l' h=>by simp at h;omega) ?_);intro v17 en17 w dY hs;rw [←List.map_append] at dY;exact .zn zg (nB (nT (.mk ⟨_,_,by rw [dr hx,List.map_append];exact dY,rfl,hs.sb⟩)))
 ·rintro fr w ⟨v3,en,hO,rfl,hs⟩;rw [List.take_length] at hO;refine nT (.af (.z zm (.o (.call call290 rfl (Bv hs hO (by rw [List.length_map];omega)) ?_))));rintro v20 w ⟨L,kO,T5,hL,hR,hs⟩;rw [List.length_map] at hL;exact .zn zg (.ret (Fin.bj results264 rfl ⟨L,kO,T5,hL,hR.congr fun x=>by simp [R3],hs⟩))
theorem sN{w:World}{v:Value}(q:Int→Bool)(hs:St H w (en::σ))(hO:cU 1 v (Is xs) en)(hl:xs.length≤17592186044416)(hc:∀args w,(callFunc g args).run Tryz.prog w= .ok (.enter g args) w)
  (hp:∀H' w σ (n:Int),n∈xs→HLe H H'→St H' w σ→aaR g ([I n]++cap) w fun u w'=>∃H1,HLe H' H1∧u= .bool (q n)∧St H1 w' σ):
  aaR 228 [v,.func (.func g) #[] cap.toArray] w fun u w'=>∃H1 i,HLe H H1∧u=I i∧((i= -1∧∀x∈xs,q x=false)∨(∃(k:Nat) (x:Int),i=k∧xs[k]? =some x∧q x=true∧∀j<k,∀y,xs[j]? =some y→q y=false))∧St H1 w' (en::σ):=by
 obtain ⟨a,c,rfl⟩:=hO.BM;refine Cl.o func228 ntmps228 ag2 ?_;refine .af (.zn zg (.seq (.af (.z zm (.z (de ae) (.zn zm (.for (N:=xs.length) (J:=fun k fr w=>fr=[(1,.func (.func g) #[] cap.toArray),(0,.slice a xs.length c)]∧∃H1,HLe H H1∧(∀j<k,∀y,xs[j]? =some y→q y=false)∧St H1 w (en::σ)) ai ?_ ?_ ?_)))))))
 ·exact .mk ⟨rfl,H,HLe.refl H,fun j hj=>by omega,hs⟩
 ·rintro k fr w hk ⟨rfl,H1,az,eE,hs⟩;have hx:=bu hk;obtain ⟨b,c',sp,hv,rfl,_⟩:=hO.blk ai;cases hv
  refine .block (.af (.z zm (.zn zg (.af (.z zm (.z zm (.z zm (.z (zix ae an) (.q hs (eG rfl aj (hv:=gQ hk sp)) (.o (.sa (first:=[]) (cap:=cap) rfl rfl hc (hp _ _ _ (gi xs k) (List.mem_of_getElem? hx) az hs) ?_)))))))))));rintro _ w ⟨H2,bg,rfl,hs⟩;refine .nil (.cond rfl (fun eC=>?_) (fun eC=>?_))
  ·exact .af (.z zm (.zn zg (.ret (rB (rT (rB (rT (Fin.bj On rfl ⟨H2,_,az.trans bg,rfl,.inr ⟨k,_,rfl,hx,eC,eE⟩,hs⟩))))))))
  ·exact .skip (nB (nT (.mk ⟨rfl,H2,az.trans bg,fH eE hx eC,hs⟩)))
 ·rintro fr w ⟨rfl,H1,az,eE,hs⟩;refine nT (.af (.zn zg (.ret (Fin.bj On rfl ?_))));exact ⟨H1,_,az,rfl,.inl ⟨rfl,fun x hx=>by
   obtain ⟨j,hj⟩:=List.getElem?_of_mem hx;exact eE j (List.getElem?_eq_some_iff.1 hj).1 x hj⟩,hs⟩
set_option maxHeartbeats 1000000 in
theorem qG{w:World}{v:Value}(q:Int→Bool)(hs:St H w (en::σ))(hO:cU 1 v (Is xs) en)(hl:xs.length≤17592186044416)(hc:∀args w,(callFunc g args).run Tryz.prog w= .ok (.enter g args) w)
  (hp:∀H' w σ (n:Int),n∈xs→HLe H H'→St H' w σ→aaR g ([I n]++cap) w fun u w'=>∃H1,HLe H' H1∧u= .bool (q n)∧St H1 w' σ):
  aaR 267 [v,.func (.func g) #[] cap.toArray] w fun u w'=>∃H1 kO,HLe H H1∧cU 1 u (Is (xs.filter fun x=> !q x)) kO∧St H1 w' (kO::σ):=by
 obtain ⟨a,c,rfl⟩:=hO.BM;refine Cl.o func267 ntmps267 ag2 ?_;refine .af (.zn zg (.af (.z zm (.z zm (.o (.call call228 rfl (sN q hs hO hl hc hp) ?_))))));rintro _ w ⟨H1,i0,az,rfl,jt,hs⟩;refine .zn zg (.seq (.af (.z zm (.zn fy (.bh rfl (fun fl=>?_) (fun fl=>?_))))))
 ·refine .af (.z zm (.zn zg (.ret (rT (Fin.bj results267 rfl ?_)))));have eE:∀x∈xs,q x=false:=by
   rcases jt with ⟨_,h⟩|⟨k,x,h,_⟩
   ·exact h
   ·omega
  have e:xs.filter (fun x=> !q x)=xs:=List.filter_eq_self.2 fun x hx=>by simp [eE x hx]
  exact ⟨H1,en,az,by rw [e];exact hO,hs⟩
 ·refine .skip (nT (.seq (.af (.z zm ?_))));obtain ⟨k0,x0,rfl,Dt,IE,eE⟩:∃(k:Nat) (x:Int),i0=k∧xs[k]? =some x∧q x=true∧∀j<k,∀y,xs[j]? =some y→q y=false:=jt.resolve_left fun h=>fl h.1
  have Fi:=(List.getElem?_eq_some_iff.1 Dt).1;obtain ⟨b,c',sp,hv,rfl,EC⟩:=hO.blk ai;cases hv
  refine .z cH (.zn zg (.block ?_));refine .loop (fun p:Nat×Nat=>⟨42,[],[(5,I (p.1:Int)),(6,I (p.2:Int)),(1,.func (.func g) #[] cap.toArray),(0,.slice (some ⟨b,0,none⟩) xs.length c)]⟩)
   (fun p w=>k0<p.2∧∃Y H1,HLe H H1∧Gz q xs Y p.1 p.2∧St H1 w (.blk b (Is Y++sp)::σ))
   (fun p=>xs.length - p.2) (k0,k0+1) (.cons rfl (.cD rfl (by dsimp only;omega) aH))
   ⟨by dsimp only;omega,xs,H1,az,.start Dt IE eE,hs⟩ ?_
  clear hs az jt;rintro ⟨i,j⟩ w ⟨ZI,Y,H1,az,hD,hs⟩;dsimp only at ZI hD ⊢;have TU:=hD.len;have Js:=hD.le;have uq:=hD.jl;have hilt:=hD.lt Dt IE ZI;refine .seq (.af (.z zm (.z zm (.z (de ae) (.zn fN (.bh rfl (fun mL=>?_) (fun mL=>?_)))))))
  ·refine .skip (nT (.seq (.block (.af (.z zm (.z zm ?_))))));have hj:j<Y.length:=by omega
   have hx:xs[j]? =some (gi Y j):=by rw [hD.rest j (Nat.le_refl _)];exact bu ai
   refine .z (zix ae an) (.q hs (eG rfl aj (hv:=gQ hj sp)) (.zn zg (.af (.z zm (.z zm (.o (.sa (first:=[]) (cap:=cap) rfl rfl hc (hp _ _ _ (gi Y j) (List.mem_of_getElem? hx) az hs) ?_)))))));rintro _ w ⟨H2,bg,rfl,hs⟩;refine .zn fU (.cond rfl (fun nO=>?_) (fun nO=>?_))
   ·refine .af (.z zm (.z zm (.z zm (.z (zix ae an) (.o (.store hs rfl rfl an ?_ .here (nS (show i<Y.length by omega) sp) (km (show i<Y.length by omega) sp _)))))));intro w hs;exact .nil (.region (.z zm (.z cH (.zn zg (nB (nT (.region (.z zm (.z cH (.zn zg (nT ⟨(i+1,j+1),.cD rfl (by dsimp only;omega) (.cD rfl (by dsimp only;omega) aH),⟨by dsimp only;omega,_,H2,az.trans bg,hD.keep hx (by simpa using nO),hs⟩,by dsimp only;omega⟩)))))))))))
   ·exact .skip (nB (nT (.region (.z zm (.z cH (.zn zg (nT ⟨(i,j+1),.cons rfl (.cD rfl (by dsimp only;omega) aH),⟨by dsimp only;omega,_,H2,az.trans bg,hD.skip hx (by simpa using nO),hs⟩,by dsimp only;omega⟩)))))))
  ·refine .exit (xT (xT (xB (nT (.af (.z zm (.z zm ?_)))))));obtain rfl:xs.length=j:=by omega
   refine .q hs (D0 (k:=i) rfl rfl ae an ai ai) ?_;rw [show 0+i*1=i by omega];refine .o (.Ui (c:=Is Y++sp) hs rfl ae dD (by simp;omega) ?_);intro w hs;rw [hD.done sp] at hs;have pI:=hD.il;rw [List.take_length] at pI;exact .nil (.af (.z zm (.z zm (.q hs (zZ (k:=i) rfl rfl ae an ai) (.zn zg (.ret (Fin.bj results267 rfl ⟨H1,_,az,.inr ⟨b,i,c,List.replicate (xs.length - i) (I 0)++sp,rfl,rfl,by simp [pI],by simp [←pI];omega,ai⟩,hs⟩)))))))
def Bx(L:List Int):List (List Value):=(List.range L.length).map fun j=>[I ((L.length - 1 - j:Nat):Int),I (gi L (L.length - 1 - j))]
theorem oG(L:List Int):(Bx L).length=L.length:=by simp [Bx]
theorem EZ(h:j<(Bx L).length):(Bx L)[j]=[I ((L.length - 1 - j:Nat):Int),I (gi L (L.length - 1 - j))]:=by simp [Bx]
theorem qI{v:Value}(hb:Row H b [v])(hr:RI H v L):Iter Tryz.prog 291 [Pt b] H (Bx L):=by
 intro l II Ix _ _ hy H0 GJ σf w hle B5 hs;obtain ⟨a,c,rfl⟩:=RI.shape hr;have hlen:=(RI.len hr).2.2;have A3:cellAt H0 b 0=some (.slice a L.length c):=cellAt.mono (hb.at 0) hle;refine Cl.o func291 ntmps291 ag2 ?_;refine .af (.y hs (zld aq) (.z (de ae) (.z gx (.zn zg (.block ?_)))));refine .loop (fun j:Nat=>⟨19,[],[(3,I ((L.length:Int) - 1 - (j:Int))),(0,.func (.yield l) #[] #[]),(1,Pt b)]⟩)
  (fun j w=>j≤L.length∧∃H1 σb,HLe H H1∧HLe H0 H1∧II j H1 σb∧St H1 w (σb++σf)) (fun j=>L.length - j) 0 (.cD rfl bH aH)
  ⟨Nat.zero_le _,H0,GJ,hle,HLe.refl _,B5,hs⟩ ?_
 clear hs B5;rintro j w ⟨hj,H1,σb,az,fO,hI,hs⟩;have B3:cellAt H1 b 0=some (.slice a L.length c):=cellAt.mono A3 fO;refine .seq (.af (.z zm (.zn xv (.bh rfl (fun ur=>?_) (fun ur=>?_)))))
 ·refine .skip (nT (.seq (.block (.af (.z zm (.z zm (.y hs (zld aq) (.z zm (.ixY hs (hr.mono az) rfl rfl ae an (bu (l:=L) (i:=L.length - 1 - j) ai) ai ?_)))))))));intro yM o15 e7;refine .q hs (aC rfl aj e7) ?_;have tj:j<(Bx L).length:=by rw [oG];omega
  have A0:=hy j tj H1 σb σf w az hI hs;rw [EZ tj,show ((L.length - 1 - j:Nat):Int)=(L.length:Int) - 1 - (j:Int) by omega] at A0;refine .o (.yield rfl rfl A0 ?_);rintro v17 w ⟨H2,σ2,g1,hs,g3⟩;obtain ⟨bb,rfl,gT,gF⟩:=q7 g3;refine .zn fU (.cond rfl (fun ib=>?_) (fun ib=>?_))
  ·exact .ret (rB (rT (rT (rB (Fin.Rv results291 ⟨H2,σ2,fO.trans g1,hs,.inr (gF (by simpa using ib))⟩)))))
  ·exact .skip (nB (nT (.region (.z zm (.z gx (.zn zg (nT ⟨j+1,.cD rfl (by simp;omega) aH,⟨ai,H2,σ2,az.trans g1,fO.trans g1,gT (by simpa using ib),hs⟩,ai⟩)))))))
 ·refine .exit (xT (xT (xB ?_)));obtain rfl:L.length=j:=by omega
  exact Fin.EO results291 ⟨H1,σb,fO,hs,.inl (by rw [oG];exact hI)⟩
theorem sO{w:World}{v:Value}(hs:St H w σ)(hr:RI H v L):
  aaR 265 [v] w fun u w'=>∃H1 b,HLe H H1∧u= .func (.func 291) #[] #[Pt b]∧Iter Tryz.prog 291 [Pt b] H1 (Bx L)∧St H1 w' σ:=by
 obtain ⟨a,c,rfl⟩:=RI.shape hr;refine Cl.o func265 ntmps265 ag1 ?_;refine .af (.bx hs fun b1 w hs=>?_);refine .zn zg (.af (.q hs (dU (f:=[]) (c:=[_]) rfl rfl) (.zn zg (.ret (Fin.bj results265 rfl ?_)))));obtain ⟨H1,g1,g2,hs⟩:=hs.dh .here;exact ⟨H1,b1,g1,rfl,qI g2 (hr.mono g1),hs⟩
theorem yK{w:World}{n m:Int}(hs:St H w σ)(hb:Row H b [I m]):
  aaR 268 [I n,Pt b] w fun u w'=>u= .bool (decide (n=m))∧St H w' σ:=by
 have A3:cellAt H b 0=some (I m):=hb.at 0;refine Cl.o func268 ntmps268 ag2 ?_;exact .af (.zn zg (.af (.z zm (.y hs (zld aj) (.z fy (.zn zg (.ret (Fin.bj results268 rfl ⟨rfl,hs⟩))))))))
set_option maxHeartbeats 1000000 in
theorem ub{w:World}{v:Value}{s:dv}(hs:St H w σ)(hr:RSy H v s):
  aaR 220 [v] w fun u w'=>∃H1 vx out e,HLe H H1∧u= .tuple #[vx,I e]∧RI H1 vx out∧GB s out e∧St H1 w' σ:=by
 obtain ⟨ul,rfl,hl⟩:=hr;obtain ⟨al,cl,rfl⟩:=RL.shape hl;refine Cl.o func220 ntmps220 ag1 ?_;refine .af (.bx hs fun b1 w hs=>?_);refine .z zg (.zn zg (.seq (.af (.y hs (zls [_,_] cn aV) (.o (.call call197 rfl (ku (s:=s) hs ⟨_,rfl,hl⟩) ?_))))));rintro _ w ⟨rfl,hs⟩;refine .zn zg (.af (.z zm (.zn fV (.dK rfl (fun fl=>?_) (fun fl=>?_)))))
 ·exact .af (.z zm (.z zg (.zn zg (.ret (rT ((Fin.iT [] [] hs fun w hs=>⟨_,results2 results220 rfl rfl,H,_,[],_,HLe.refl H,rfl,RS.nil H 1 none 0,.bad fl,hs.out⟩)))))))
 ·refine .skip (nT (.seq (.af (.y hs (zls [_,_] cn aV) ?_))));have aZ:s.Ok:=s.dX.1 (by simpa using fl);have wq:=aZ.len;refine .o (.call call223 rfl (lz (s:=s) hs aZ ⟨_,rfl,hl⟩) ?_);rintro _ w ⟨H1,bb,az,rfl,F9,hs⟩;refine .nil (.cond rfl (fun e7=>?_) (fun e7=>?_))
  ·exact .af (.z zg (.zn zg (.ret (rT ((Fin.iT [] [] hs fun w hs=>⟨_,results2 results220 rfl rfl,H1,_,[],_,az,rfl,RS.nil H1 1 none 0,.none aZ (F9.1 e7),hs.out⟩))))))
  ·refine .skip (nT (.af (.y hs (zls [_,_] cn aV) ?_)));have S5:¬s.Sound:=fun h=>by rw [F9.2 h] at e7;cases e7
   refine .o (.call call264 rfl (oF (s:=s) hs ⟨_,rfl,hl.mono az⟩ ai) ?_);rintro v17 w ⟨L,en,hO,Vi,Pf,hs⟩;obtain ⟨a17,l17,c17,rfl,h17⟩:=hO.shape;refine .o (.alloc hs gS rfl fun b5 w hs=>?_);refine .o (.store hs rfl rfl aI fun w hs=>?_);refine .nil (.seq (.af (.y hs (zls [_,_] cn aV) (.o (.call call264 rfl (oF (s:=s) hs ⟨_,rfl,hl.mono az⟩ ai) ?_)))));rintro v19 w ⟨L',kO,T5,hLl',QL,hs⟩;obtain rfl:L=L':=Pf.uniq QL;obtain ⟨H2,bg,X4,hs⟩:=cU.dR T5 ai hs .here;refine .o (.call call265 rfl (sO hs X4) ?_);rintro _ w ⟨H3,Gr,bZ,rfl,qO,hs⟩;have ee:=az.trans (bg.trans bZ);refine .nil (.block ?_);refine .rangeFunc (gf:=291) (cap:=[Pt Gr]) (xs:=Bx L) (σb:=[.blk b1 [I s.many,.slice al s.df.length cl],.blk b5 [.slice a17 l17 c17],en]) (σf:=σ) (hs.sb:St H3 w (.blk b1 _:: .blk b5 _::en::σ)) trivial rfl qO call291 (fun x hx=>by
     simp only [Bx,List.mem_map] at hx;obtain ⟨j,_,rfl⟩:=hx;rfl) rfl
    (I:=fun j H' σb=>∃(t:dv) (ut vo:Value) (out:List Int) (en:Ent),σb=[.blk b1 [I t.many,ut],.blk b5 [vo],en]∧RL H' ut t.df∧cU 1 vo (Is out) en∧out.length≤L.length∧t.Ok∧AR s L (L.length - j) t out) (Ix:=fun _ _ _=>False)
    (fun j _ _ σ g1 ⟨t,ut,vo,out,en,g2,g3,g4⟩=>⟨t,ut,vo,out,en,g2,g3.mono g1,g4⟩) (fun _ _ _ _ _ h=>h)
    ⟨s,_,_,L,en,rfl,hl.mono ee,hO,Nat.le_refl _,aZ,.start⟩ ?_ ?_ (fun D c H' σb w _ h _=>h.elim)
   ·rintro l j hj H4 xu xt w eH ⟨t,ut,vo,out,en,rfl,UX,RU,ZA,KA,hC⟩ hs ⟨rr,Du⟩;rw [EZ hj];have hjL:j<L.length:=by rw [oG] at hj;exact hj
    obtain ⟨at',ct,rfl⟩:=RL.shape UX;obtain ⟨ao,lo,co,rfl,w6⟩:=RU.shape;refine .region (.o (.alloc hs dD rfl fun b7 w hs=>?_));refine .o (.store hs rfl rfl an fun w hs=>?_);refine .nil (nT ⟨H4,[.blk b7 [I (gi L (L.length - 1 - j))],.blk b1 [I t.many,.slice at' t.df.length ct],.blk b5 [.slice ao lo co],en],HLe.refl _,hs,?_⟩);rintro w oI - hs;refine .block (.af (.y hs (zls [_,_] cn aV) (.y hs (zld aj) (.o (.buildSlice (cells:=[_]) hs cV rfl rfl fun Dy w hs=>?_)))));obtain ⟨H5,kD,r25,hs⟩:=cU.dR (xs:=[gi L (L.length - 1 - j)]) (v:= .slice (some ⟨Dy,0,none⟩) 1 1) (.full (len:=1) rfl) bH hs dy;refine .o (.call call266 rfl (vR (s:=t) hs ⟨_,rfl,UX.mono kD⟩ r25 (by have:=KA.len;omega)) ?_);rintro _ w ⟨H6,yA,⟨u26,rfl,QO⟩,hs⟩;obtain ⟨a26,c26,rfl⟩:=RL.shape QO;refine .o (.alloc hs fk rfl fun b8 w hs=>?_);refine .o (.aE (vs:=[_,_]) hs rfl rfl aV fun w hs=>?_);refine .nil (.af (.y hs (zls [_,_] cn aV) (.o (.call call223 rfl (lz (s:=t.wo [gi L (L.length - 1 - j)]) hs (KA.wo _) ⟨_,rfl,QO⟩) ?_))));rintro _ w ⟨H7,R1,Nr,rfl,w9,hs⟩;have KN:=kD.trans (yA.trans Nr);refine .zn fU (.cond rfl (fun nO=>?_) (fun nO=>?_))
    ·refine .af (.y hs (zls [_,_] cn aV) (.o (.aE (vs:=[_,_]) hs rfl rfl aV fun w hs=>?_)));refine .nil (.region (.y hs (zld aq) (.q hs (dU (f:=[]) (c:=[_]) rfl rfl) ?_)));obtain ⟨H8,FZ,r7,hs⟩:=hs.dh (b:=b7) dy;replace hs:St H8 w (en:: .blk b1 [I t.many,.slice a26 (t.wo [gi L (L.length - 1 - j)]).df.length c26]:: .blk b5 [.slice ao lo co]::oI):=hs.sb;refine .o (.call call267 rfl (qG (g:=268) (cap:=[Pt b7]) (fun n=>decide (n=gi L (L.length - 1 - j))) hs RU ai call268
      (fun H' w σ n _ hle hs=>(yK hs (r7.mono hle)).mono fun u w' ⟨g1,g2⟩=>⟨H',HLe.refl _,g1,g2⟩)) ?_);rintro v33 w ⟨H9,en9,Nq,aaq,hs⟩
     obtain ⟨a33,l33,c33,rfl,h33⟩:=aaq.shape;refine .o (.store hs rfl rfl aI fun w hs=>?_);refine .nil (nB ?_);have A2:=List.length_filter_le (fun n=> !decide (n=gi L (L.length - 1 - j))) out;have e:L.length - (j+1)=L.length - 1 - j:=by omega
     have WH:¬(t.wo [gi L (L.length - 1 - j)]).Sound:=fun h=>by rw [w9.2 h] at nO;cases nO
     exact ⟨H9,[.blk b1 [I t.many,.slice a26 (t.wo [gi L (L.length - 1 - j)]).df.length c26],.blk b5 [.slice a33 l33 c33],en9],KN.trans (FZ.trans Nq),(hs.sb:St H9 w (.blk b1 _:: .blk b5 _::en9::oI)),t.wo [gi L (L.length - 1 - j)],_,_,_,_,rfl,QO.mono (Nr.trans (FZ.trans Nq)),aaq,ai,KA.wo _,by
      rw [e];exact .drop (by rw [show L.length - 1 - j+1=L.length - j by omega];exact hC) WH⟩
    ·refine .skip (nB ?_);have e:L.length - (j+1)=L.length - 1 - j:=by omega
     have Nl:(t.wo [gi L (L.length - 1 - j)]).Sound:=w9.1 (by simpa using nO);exact ⟨H7,[.blk b1 [I t.many,.slice at' t.df.length ct],.blk b5 [.slice ao lo co],en],KN,(hs.sb:St H7 w (.blk b1 _:: .blk b5 _::en::oI)),t,_,_,_,_,rfl,UX.mono KN,RU,ZA,KA,by
      rw [e];exact .keep (by rw [show L.length - 1 - j+1=L.length - j by omega];exact hC) Nl⟩
   ·rintro D H4 xu w eH ⟨t,ut,vo,out,en,rfl,UX,RU,ZA,KA,hC⟩ hs;rw [oG,Nat.sub_self] at hC;obtain ⟨ao,lo,co,rfl,w6⟩:=RU.shape;replace hs:St H4 w (.obj D (.deferred (some [])):: .blk b1 [I t.many,ut]:: .blk b5 [.slice ao lo co]::en::σ):=hs;refine nB (nT (.af (.y hs (zld aq) (.z zg (.zn zg (.ret ?_))))));obtain ⟨H5,kD,hR5,hs⟩:=cU.dR RU ai hs dy;exact Fin.iT [D] [] hs fun w hs=>⟨_,results2 results220 rfl rfl,H5,_,out,0,ee.trans (eH.trans kD),rfl,hR5,.ok aZ S5 Pf hC,hs.out⟩
theorem qE{w:World}{v:Value}(q:Int→Prop)(hs:St H w σ)(hR:RI H v xs)(hc:∀args w,(callFunc g args).run Tryz.prog w= .ok (.enter g args) w)
  (hp:∀H' w σ (n:Int),n∈xs→HLe H H'→St H' w σ→aaR g ([I n]++cap) w fun u w'=>∃H1 b,HLe H' H1∧u= .bool b∧(b=true↔q n)∧St H1 w' σ):
  aaR 228 [v,.func (.func g) #[] cap.toArray] w fun u w'=>∃H1 i,HLe H H1∧u=I i∧(0≤i↔∃x∈xs,q x)∧St H1 w' σ:=by
 obtain ⟨a,c,rfl⟩:=RI.shape hR;have hl:=(RI.len hR).2.2;refine Cl.o func228 ntmps228 ag2 ?_;refine .af (.zn zg (.seq (.af (.z zm (.z (de ae) (.zn zm (.for (N:=xs.length) (J:=fun k fr w=>fr=[(1,.func (.func g) #[] cap.toArray),(0,.slice a xs.length c)]∧∃H1,HLe H H1∧(∀j<k,∀y,xs[j]? =some y→¬q y)∧St H1 w σ) ai ?_ ?_ ?_)))))))
 ·exact .mk ⟨rfl,H,HLe.refl H,fun j hj=>by omega,hs⟩
 ·rintro k fr w hk ⟨rfl,H1,az,eE,hs⟩;obtain ⟨x,hx⟩:=nth hk;refine .block (.af (.z zm (.zn zg (.af (.z zm (.z zm (.z zm (.ixY hs (hR.mono az) rfl rfl ae an hx rfl ?_))))))));intro oh o14 jH;refine .q hs (aC rfl aj jH) (.o (.sa (first:=[]) (cap:=cap) rfl rfl hc (hp _ _ _ x (List.mem_of_getElem? hx) az hs) ?_));rintro _ w ⟨H2,nx,bg,rfl,rP,hs⟩;refine .nil (.cond rfl (fun eC=>?_) (fun eC=>?_))
  ·exact .af (.z zm (.zn zg (.ret (rB (rT (rB (rT (Fin.bj On rfl ⟨H2,_,az.trans bg,rfl,⟨fun _=>⟨x,List.mem_of_getElem? hx,rP.1 eC⟩,fun _=>by omega⟩,hs⟩))))))))
  ·exact .skip (nB (nT (.mk ⟨rfl,H2,az.trans bg,fH eE hx (fun h=>by rw [rP.2 h] at eC;cases eC),hs⟩)))
 ·rintro fr w ⟨rfl,H1,az,eE,hs⟩;refine nT (.af (.zn zg (.ret (Fin.bj On rfl ?_))));exact ⟨H1,_,az,rfl,⟨fun h=>by omega,fun ⟨x,h1,h2⟩=>by
   obtain ⟨j,hj⟩:=List.getElem?_of_mem h1;exact (eE j (List.getElem?_eq_some_iff.1 hj).1 x hj h2).elim⟩,hs⟩
theorem oL{w:World}{v:Value}(q:Int→Prop)(hs:St H w σ)(hR:RI H v xs)(hc:∀args w,(callFunc g args).run Tryz.prog w= .ok (.enter g args) w)
  (hp:∀H' w σ (n:Int),n∈xs→HLe H H'→St H' w σ→aaR g ([I n]++cap) w fun u w'=>∃H1 b,HLe H' H1∧u= .bool b∧(b=true↔q n)∧St H1 w' σ):
  aaR 185 [v,.func (.func g) #[] cap.toArray] w fun u w'=>∃H1 b,HLe H H1∧u= .bool b∧(b=true↔∃x∈xs,q x)∧St H1 w' σ:=by
 refine Cl.o func185 ntmps185 ag2 ?_;refine .af (.zn zg (.af (.z zm (.z zm (.o (.call call228 rfl (qE q hs hR hc hp) ?_))))));rintro _ w ⟨H1,i,az,rfl,hi,hs⟩;exact .z xv (.zn zg (.ret (Fin.bj results185 rfl ⟨H1,_,az,rfl,by simp only [decide_eq_true_eq];exact hi,hs⟩)))
end Go.Proofs.YteajddicacjkhaaGreat
