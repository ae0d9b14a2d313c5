/-
  Texts of these claims, joined: Opn Opb Opv Opm Opq Opc Cls Fct Wa Wb Wc Wd We Wf Wg Wh Wp Wt Wu Wy Xd Xf Xi Xj Xn Srt Yc Yd Ye Yf Yq Za Zb Ze Zf.
-/
import Derived.Test.YtlgfjghdgbhkhaaGreatTb
import Derived.Test.YtlgfjghdgbhkhaaGreatProg
import Derived.KernelRfl
import Derived.JoinedOf
import Derived.Shelf.Sort.Plain
import Derived.Shelf.Slices.CompactI
import Derived.Shelf.Slices.In.SortNone
import Derived.Lib.RowBridge
namespace Go.Proofs.YtlgfjghdgbhkhaaGreat
open Tryz
abbrev aaA:=Go.MW.Cl Tryz.prog
theorem jy:type_of% @call10:=@call10
theorem wF:type_of% @call116:=@call116
theorem Ze:type_of% @call155:=@call155
theorem k7:type_of% @call170:=@call170
theorem rX:type_of% @call191:=@call191
theorem Zd:type_of% @call34:=@call34
theorem nW:type_of% @call66:=@call66
theorem uX:type_of% @call79:=@call79
theorem kU:type_of% @call85:=@call85
theorem jY:type_of% @isAgg103:=@isAgg103
theorem mw:type_of% @isAgg109:=@isAgg109
theorem ft:type_of% @isAgg110:=@isAgg110
theorem bZ:type_of% @isAgg112:=@isAgg112
theorem js:type_of% @isAgg127:=@isAgg127
theorem nV:type_of% @isAgg142:=@isAgg142
theorem P7:type_of% @isAgg153:=@isAgg153
theorem Ar:type_of% @isAgg167:=@isAgg167
theorem P6:type_of% @isAgg180:=@isAgg180
theorem P5:type_of% @isAgg207:=@isAgg207
theorem P4:type_of% @isAgg218:=@isAgg218
theorem an:type_of% @isAgg22:=@isAgg22
theorem mv:type_of% @isAgg296:=@isAgg296
theorem ai:type_of% @isAgg3:=@isAgg3
theorem pY:type_of% @isAgg321:=@isAgg321
theorem bu:type_of% @isAgg33:=@isAgg33
theorem fa:type_of% @isAgg34:=@isAgg34
theorem rW:type_of% @isAgg35:=@isAgg35
theorem bA:type_of% @isAgg37:=@isAgg37
theorem pG:type_of% @isAgg4:=@isAgg4
theorem wE:type_of% @isAgg40:=@isAgg40
theorem pc:type_of% @isAgg42:=@isAgg42
theorem Zc:type_of% @isAgg51:=@isAgg51
theorem dL:type_of% @isAgg55:=@isAgg55
theorem kZ:type_of% @isAgg74:=@isAgg74
theorem iP:type_of% @isAgg76:=@isAgg76
theorem wD:type_of% @isAgg78:=@isAgg78
theorem cP:type_of% @isAgg80:=@isAgg80
theorem Bc:type_of% @isAgg87:=@isAgg87
theorem iO:type_of% @isAgg90:=@isAgg90
theorem kY:type_of% @isAgg91:=@isAgg91
theorem iN:type_of% @isAgg93:=@isAgg93
theorem OM:type_of% @isAgg98:=@isAgg98
theorem Dq:type_of% @results103:=@results103
theorem OL:type_of% @results104:=@results104
theorem OK:type_of% @results159:=@results159
theorem Dp:type_of% @results229:=@results229
theorem Jk:type_of% @results24:=@results24
theorem UZ:type_of% @results41:=@results41
theorem Bb:type_of% @results53:=@results53
theorem UY:type_of% @results55:=@results55
theorem UX:type_of% @results60:=@results60
theorem l6:type_of% @results67:=@results67
theorem Jj:type_of% @results83:=@results83
theorem rV:type_of% @runUnderlying103:=@runUnderlying103
theorem Dm:type_of% @runUnderlying109:=@runUnderlying109
theorem aW:type_of% @runUnderlying110:=@runUnderlying110
theorem mH:type_of% @runUnderlying117:=@runUnderlying117
theorem Dl:type_of% @runUnderlying118:=@runUnderlying118
theorem bL:type_of% @runUnderlying124:=@runUnderlying124
theorem mG:type_of% @runUnderlying127:=@runUnderlying127
theorem Zb:type_of% @runUnderlying138:=@runUnderlying138
theorem rU:type_of% @runUnderlying147:=@runUnderlying147
theorem Za:type_of% @runUnderlying153:=@runUnderlying153
theorem fT:type_of% @runUnderlying165:=@runUnderlying165
theorem Dk:type_of% @runUnderlying167:=@runUnderlying167
theorem Y9:type_of% @runUnderlying202:=@runUnderlying202
theorem ir:type_of% @runUnderlying204:=@runUnderlying204
theorem af:type_of% @runUnderlying22:=@runUnderlying22
theorem Y8:type_of% @runUnderlying221:=@runUnderlying221
theorem Dj:type_of% @runUnderlying227:=@runUnderlying227
theorem fS:type_of% @runUnderlying229:=@runUnderlying229
theorem Y7:type_of% @runUnderlying255:=@runUnderlying255
theorem dH:type_of% @runUnderlying256:=@runUnderlying256
theorem fR:type_of% @runUnderlying258:=@runUnderlying258
theorem nU:type_of% @runUnderlying28:=@runUnderlying28
theorem aC:type_of% @runUnderlying296:=@runUnderlying296
theorem aF:type_of% @runUnderlying3:=@runUnderlying3
theorem dG:type_of% @runUnderlying306:=@runUnderlying306
theorem Di:type_of% @runUnderlying321:=@runUnderlying321
theorem uS:type_of% @runUnderlying33:=@runUnderlying33
theorem aV:type_of% @runUnderlying34:=@runUnderlying34
theorem cQ:type_of% @runUnderlying35:=@runUnderlying35
theorem az:type_of% @runUnderlying40:=@runUnderlying40
theorem aN:type_of% @runUnderlying44:=@runUnderlying44
theorem eI:type_of% @runUnderlying56:=@runUnderlying56
theorem uR:type_of% @runUnderlying74:=@runUnderlying74
theorem jr:type_of% @runUnderlying76:=@runUnderlying76
theorem kX:type_of% @runUnderlying78:=@runUnderlying78
theorem dE:type_of% @runUnderlying80:=@runUnderlying80
theorem eH:type_of% @runUnderlying87:=@runUnderlying87
theorem kW:type_of% @runUnderlying88:=@runUnderlying88
theorem Gw:type_of% @runUnderlying90:=@runUnderlying90
theorem bN:type_of% @runUnderlying91:=@runUnderlying91
theorem Gv:type_of% @runUnderlying98:=@runUnderlying98
theorem bI:type_of% @sizeOf103:=@sizeOf103
theorem bU:type_of% @sizeOf109:=@sizeOf109
theorem aZ:type_of% @sizeOf112:=@sizeOf112
theorem UW:type_of% @sizeOf117:=@sizeOf117
theorem cH:type_of% @sizeOf127:=@sizeOf127
theorem Ba:type_of% @sizeOf138:=@sizeOf138
theorem Ji:type_of% @sizeOf145:=@sizeOf145
theorem A9:type_of% @sizeOf149:=@sizeOf149
theorem iE:type_of% @sizeOf153:=@sizeOf153
theorem eA:type_of% @sizeOf167:=@sizeOf167
theorem A8:type_of% @sizeOf207:=@sizeOf207
theorem aJ:type_of% @sizeOf22:=@sizeOf22
theorem gN:type_of% @sizeOf225:=@sizeOf225
theorem uQ:type_of% @sizeOf227:=@sizeOf227
theorem UU:type_of% @sizeOf296:=@sizeOf296
theorem ak:type_of% @sizeOf3:=@sizeOf3
theorem aR:type_of% @sizeOf321:=@sizeOf321
theorem aI:type_of% @sizeOf33:=@sizeOf33
theorem Gu:type_of% @sizeOf34:=@sizeOf34
theorem P3:type_of% @sizeOf35:=@sizeOf35
theorem aM:type_of% @sizeOf37:=@sizeOf37
theorem fQ:type_of% @sizeOf4:=@sizeOf4
theorem ea:type_of% @sizeOf42:=@sizeOf42
theorem Aq:type_of% @sizeOf51:=@sizeOf51
theorem a8:type_of% @sizeOf55:=@sizeOf55
theorem Ap:type_of% @sizeOf58:=@sizeOf58
theorem fq:type_of% @sizeOf74:=@sizeOf74
theorem bF:type_of% @sizeOf76:=@sizeOf76
theorem dO:type_of% @sizeOf78:=@sizeOf78
theorem aH:type_of% @sizeOf80:=@sizeOf80
theorem eu:type_of% @sizeOf90:=@sizeOf90
theorem dN:type_of% @sizeOf93:=@sizeOf93
theorem jX:type_of% @sizeOf98:=@sizeOf98
theorem uP:type_of% @typeInfo3:=@typeInfo3
theorem Y6:type_of% @typeInfo321:=@typeInfo321
theorem E1:type_of% @underlying27:=@underlying27
theorem kq:type_of% @underlying3:=@underlying3
theorem E0:type_of% @underlying84:=@underlying84
theorem EZ:type_of% @underlying86:=@underlying86
theorem eF:type_of% @zeroValue103:=@zeroValue103
theorem gZ:type_of% @zeroValue109:=@zeroValue109
theorem fP:type_of% @zeroValue112:=@zeroValue112
theorem uW:type_of% @zeroValue127:=@zeroValue127
theorem pb:type_of% @zeroValue138:=@zeroValue138
theorem EY:type_of% @zeroValue153:=@zeroValue153
theorem uV:type_of% @zeroValue167:=@zeroValue167
theorem gY:type_of% @zeroValue22:=@zeroValue22
theorem uU:type_of% @zeroValue225:=@zeroValue225
theorem SE:type_of% @zeroValue227:=@zeroValue227
theorem du:type_of% @zeroValue3:=@zeroValue3
theorem gX:type_of% @zeroValue321:=@zeroValue321
theorem i6:type_of% @zeroValue33:=@zeroValue33
theorem kl:type_of% @zeroValue37:=@zeroValue37
theorem OI:type_of% @zeroValue4:=@zeroValue4
theorem l5:type_of% @zeroValue42:=@zeroValue42
theorem gW:type_of% @zeroValue55:=@zeroValue55
theorem Jh:type_of% @zeroValue58:=@zeroValue58
theorem kj:type_of% @zeroValue76:=@zeroValue76
theorem rR:type_of% @zeroValue78:=@zeroValue78
theorem dA:type_of% @zeroValue80:=@zeroValue80
theorem Y5:type_of% @zeroValue90:=@zeroValue90
end Go.Proofs.YtlgfjghdgbhkhaaGreat
namespace Go.Proofs.YtlgfjghdgbhkhaaGreat
open Go.MW Go.ChangeShapes Go.WideShapes Tryz
set_option maxRecDepth 100000
theorem CO:Tryz.prog.cellsOf 3=1:=by kernel_rfl
theorem Hq:Tryz.prog.cellsOf 22=1:=by kernel_rfl
theorem YH:Tryz.prog.bytesOf 3=8:=by kernel_rfl
theorem MZ:reachBytes=140737488351232:=rfl
section
variable{H:Type}{enc:TypeId×Value→H}{w:World}{sp:Nat→Bool}{held:Bool}{n:Nat}{cs:List Value}{y:DataW H×List MemPlace}{v:Value}{d:DataW H}{p:List MemPlace}{r:Reach}{base:Nat}
theorem GL(hw:Wt Tryz.prog 22 y.1)(h:DataW.trod enc Tryz.prog w 0 sp held n 22 cs=some y):∃v xs,cs=[v]∧RI (hp w) v xs∧IsIn xs:=by
 obtain ⟨v,xs,h1,h2,h3,h4⟩:=Qc underlying22 kq CO hw h;rw [YH,MZ] at h3;exact ⟨v,xs,h1,h2,aj,h4⟩
end
end Go.Proofs.YtlgfjghdgbhkhaaGreat
namespace Go.Proofs.YtlgfjghdgbhkhaaGreat
open Go.MW Go.ChangeShapes Go.WideShapes Tryz
set_option maxRecDepth 100000
theorem c_2:Tryz.prog.cellsOf 28=2:=by kernel_rfl
section
variable{H:Type}{enc:TypeId×Value→H}{w:World}{sp:Nat→Bool}{held:Bool}{n:Nat}{cs:List Value}{y:DataW H×List MemPlace}{v:Value}{d:DataW H}{p:List MemPlace}{r:Reach}{base:Nat}
end
end Go.Proofs.YtlgfjghdgbhkhaaGreat
namespace Go.Proofs.YtlgfjghdgbhkhaaGreat
open Go.MW Go.ChangeShapes Go.WideShapes Tryz
set_option maxRecDepth 100000
theorem len6{α:Type}{l:List α}(h:l.length=6):∃a b c d e f,l=[a,b,c,d,e,f]:=by match l,h with|[a,b,c,d,e,f],_=>exact ⟨a,b,c,d,e,f,rfl⟩
section
variable{H:Type}{enc:TypeId×Value→H}{w:World}{sp:Nat→Bool}{held:Bool}{n:Nat}{cs:List Value}{y:DataW H×List MemPlace}{v:Value}{d:DataW H}{p:List MemPlace}{r:Reach}{base:Nat}
end
end Go.Proofs.YtlgfjghdgbhkhaaGreat
namespace Go.Proofs.YtlgfjghdgbhkhaaGreat
open Go.MW Go.ChangeShapes Go.WideShapes Tryz
set_option maxRecDepth 100000
theorem Oz:Tryz.prog.cellsOf 23=1:=by kernel_rfl
theorem Oy:Tryz.prog.cellsOf 24=1:=by kernel_rfl
theorem c_53:Tryz.prog.cellsOf 117=5:=by kernel_rfl
theorem c_43:Tryz.prog.cellsOf 118=4:=by kernel_rfl
theorem Su:Tryz.prog.cellsOf 25=3:=by kernel_rfl
theorem LU:Tryz.prog.cellsOf 27=7:=by kernel_rfl
theorem len7{α:Type}{l:List α}(h:l.length=7):∃a b c d e f g,l=[a,b,c,d,e,f,g]:=by match l,h with|[a,b,c,d,e,f,g],_=>exact ⟨a,b,c,d,e,f,g,rfl⟩
theorem PS:∀{zs:List (List Int)},(∀z∈zs,z.length=5∧∀y∈z,I64 y)→∃ls:List F5,zs.map Is=ls.map F5.v
 |[],_=>⟨[],rfl⟩
 |z::zs,h=>by
  obtain ⟨ls,h1⟩:=PS (fun c hc=>h c (.tail _ hc));obtain ⟨h3,_⟩:=h z (.head _)
  match z,h3 with
  |[a,b,c,d,e],_=>exact ⟨⟨a,b,c,d,e⟩::ls,by rw [List.map_cons,h1];rfl⟩
theorem PR:∀{zs:List (List Int)},(∀z∈zs,z.length=4∧∀y∈z,I64 y)→∃ls:List F4,zs.map Is=ls.map F4.v
 |[],_=>⟨[],rfl⟩
 |z::zs,h=>by
  obtain ⟨ls,h1⟩:=PR (fun c hc=>h c (.tail _ hc));obtain ⟨h3,_⟩:=h z (.head _)
  match z,h3 with
  |[a,b,c,d],_=>exact ⟨⟨a,b,c,d⟩::ls,by rw [List.map_cons,h1];rfl⟩
structure aay where
 sp:List Int
 rs:List F5
 cs:List F4
 pk:List Int
 x:Int
 y:Int
 z:Int
def YX(H:bB)(v:Value)(r:aay):Prop:=∃vs v5 v4 vp,v= .agg #[vs,v5,v4,vp,I r.x,I r.y,I r.z]∧RI H vs r.sp∧RF5 H v5 r.rs∧RF4 H v4 r.cs∧RI H vp r.pk
section
variable{H:Type}{enc:TypeId×Value→H}{w:World}{sp:Nat→Bool}{held:Bool}{n:Nat}{cs:List Value}{y:DataW H×List MemPlace}{v:Value}{d:DataW H}{p:List MemPlace}{r:Reach}{base:Nat}
theorem Nn(hw:Wt Tryz.prog 23 y.1)(h:DataW.trod enc Tryz.prog w 0 sp held n 23 cs=some y):∃(v:Value) (ls:List F5),cs=[v]∧RF5 (hp w) v ls:=by
 obtain ⟨v,zs,h1,h2,_,h3⟩:=Fk (k:=5) underlying23 underlying117 kq CO e9 c_53 hw h;obtain ⟨ls,h4⟩:=PS h3;exact ⟨v,ls,h1,by unfold RF5;rw [←h4];exact h2⟩
theorem Nl(hw:Wt Tryz.prog 24 y.1)(h:DataW.trod enc Tryz.prog w 0 sp held n 24 cs=some y):∃(v:Value) (ls:List F4),cs=[v]∧RF4 (hp w) v ls:=by
 obtain ⟨v,zs,h1,h2,_,h3⟩:=Fk (k:=4) underlying24 underlying118 kq CO e9 c_43 hw h;obtain ⟨ls,h4⟩:=PR h3;exact ⟨v,ls,h1,by unfold RF4;rw [←h4];exact h2⟩
end
end Go.Proofs.YtlgfjghdgbhkhaaGreat
namespace Go.Proofs.YtlgfjghdgbhkhaaGreat
open Go.MW Go.ChangeShapes Go.WideShapes Tryz
set_option maxRecDepth 100000
theorem Hr:Tryz.prog.cellsOf 55=2:=by kernel_rfl
section
variable{H:Type}{enc:TypeId×Value→H}{w:World}{sp:Nat→Bool}{held:Bool}{n:Nat}{cs:List Value}{y:DataW H×List MemPlace}{v:Value}{d:DataW H}{p:List MemPlace}{r:Reach}{base:Nat}
theorem No(h:DataW.trod enc Tryz.prog w 0 sp held n 55 cs=some y):∃a b:Int,cs=[I a,I b]∧I64 a∧I64 b:=by
 obtain ⟨xs,a1,a2,a3⟩:=Jz underlying55 (by
  intro i f hf
  match i with
  |0|1=>cases hf;exact ⟨rfl,kq,CO⟩
  |i+2=>simp at hf) (by rw [Hr];rfl) h
 obtain ⟨a,b,rfl⟩:=Zi a1;exact ⟨a,b,a2,a3 a br,a3 b br⟩
end
end Go.Proofs.YtlgfjghdgbhkhaaGreat
namespace Go.Proofs.YtlgfjghdgbhkhaaGreat
open Go.MW Go.ChangeShapes Go.WideShapes Tryz
set_option maxRecDepth 100000
theorem Ox:Tryz.prog.cellsOf 82=1:=by kernel_rfl
theorem UE:Tryz.prog.cellsOf 229=6:=by kernel_rfl
theorem LS:Tryz.prog.cellsOf 84=14:=by kernel_rfl
theorem Wc{α:Type}{l:List α}(h:l.length=14):∃a b c d e f g i j k m n o p,l=[a,b,c,d,e,f,g,i,j,k,m,n,o,p]:=by match l,h with|[a,b,c,d,e,f,g,i,j,k,m,n,o,p],_=>exact ⟨a,b,c,d,e,f,g,i,j,k,m,n,o,p,rfl⟩
section
variable{H:Type}{enc:TypeId×Value→H}{w:World}{sp:Nat→Bool}{held:Bool}{n:Nat}{cs:List Value}{y:DataW H×List MemPlace}{v:Value}{d:DataW H}{p:List MemPlace}{r:Reach}{base:Nat}
theorem Nk(hw:Wt Tryz.prog 82 y.1)(h:DataW.trod enc Tryz.prog w 0 sp held n 82 cs=some y):∃(v:Value) (ls:List Sx),cs=[v]∧RS (hp w) 6 v (ls.map Sx.v):=by
 obtain ⟨v,zs,h1,h2,_,h3⟩:=Fk (k:=6) underlying82 underlying229 kq CO e9 UE hw h;obtain ⟨ls,h4,_⟩:=all_map (f:=Sx.v) (Q:=fun _=>True) (css:=zs.map Is) fun c hc=>by
  obtain ⟨z,hz,rfl⟩:=List.mem_map.1 hc;obtain ⟨a,b,c,d,e,f,rfl⟩:=len6 (h3 z hz).1;exact ⟨⟨a,b,c,d,e,f⟩,rfl,trivial⟩
 exact ⟨v,ls,h1,by rw [←h4];exact h2⟩
theorem Ta(hw:Wt Tryz.prog 27 y.1)(h:DataW.trod enc Tryz.prog w 0 sp held n 27 cs=some y):∃q:aay,YX (hp w) (.agg cs.toArray) q:=by
 obtain ⟨ys,m,_,rfl,hlen,uh,hg⟩:=DataW.trod_struct E1 h;rw [LU] at hlen;obtain ⟨c0,c1,c2,c3,c4,c5,c6,rfl⟩:=len7 hlen;obtain ⟨_,h0,k0⟩:=fld hg uh 0 rfl rfl rfl Hq E1 hw;obtain ⟨_,h1,k1⟩:=fld hg uh 1 rfl rfl rfl Oz E1 hw;obtain ⟨_,h2,k2⟩:=fld hg uh 2 rfl rfl rfl Oy E1 hw;obtain ⟨_,h3,k3⟩:=fld hg uh 3 rfl rfl rfl Hq E1 hw;obtain ⟨_,h4,k4⟩:=fld hg uh 4 rfl rfl rfl Su E1 hw;obtain ⟨v0,s0,e0,r0,i0⟩:=GL k0 h0;obtain ⟨v1,l1,e1,r1⟩:=Nn k1 h1;obtain ⟨v2,l2,e2,r2⟩:=Nl k2 h2;obtain ⟨v3,s3,e3,r3,i3⟩:=GL k3 h3;obtain ⟨xs,g1,g2,g3⟩:=tI underlying25 kq CO Su h4;obtain ⟨a,b,c,rfl⟩:=Wa g1;cases e0;cases e1;cases e2;cases e3;cases g2
 exact ⟨⟨s0,l1,l2,s3,a,b,c⟩,⟨_,_,_,_,rfl,r0,r1,r2,r3⟩⟩
end
end Go.Proofs.YtlgfjghdgbhkhaaGreat
namespace Go.Proofs.YtlgfjghdgbhkhaaGreat
theorem RE:Tryz.prog.make=some .cut:=by kernel_rfl
theorem Ow:Tryz.prog.mayEnter=true:=by kernel_rfl
theorem Ot:Tryz.prog.liftsFinal=false:=by kernel_rfl
theorem RF:Tryz.prog.plainKeys=false:=by kernel_rfl
theorem LR:laidOutB Tryz.prog=true:=by kernel_rfl
theorem RD:mapsRowed Tryz.prog=true:=by kernel_rfl
theorem Ov:Tryz.prog.stopsHeard=true:=by kernel_rfl
theorem Oq:Tryz.prog.stops=[]:=by kernel_rfl
theorem Ou:Tryz.prog.stopKnobs=[]:=by kernel_rfl
theorem tq{a b:Bool}(h:a=true)(k:b=true):(a&&b)=true:=by rw [h,k];rfl
theorem UF{α:Type}[BEq α][LawfulBEq α]{a b:α}(h:a=b):(a==b)=true:=by rw [h];exact beq_self_eq_true _
theorem UD:ownKnob Tryz.prog.godebug=none:=by kernel_rfl
end Go.Proofs.YtlgfjghdgbhkhaaGreat
namespace Go.Proofs.YtlgfjghdgbhkhaaGreat
open Go.MW Tryz
variable{H:bB}{σ:List Ent}{a0 a1 a2 x most a hi lo j f e known fl id number:Int}{l:Lns}{ls:List Lim}{g b k b1 bf bt bl cl i bm bc bn:Nat}{cap sp:List Value}{s:Srv}{xs lf ws bs L X Y cn ks days:List Int}{en:Ent}{ts:List TD}{vl vt vd vp vw vb vx v1 v2 vr vc d vh vs v5 v4 fu b' tap dn b2 c2 d2:Value}{m:Rng}{t:TD}{rows:List (List Int)}{high th:Bool}{kd:Int→Int}
theorem mix:Tryz.prog.follows .mixedOrders=true:=by kernel_rfl
theorem qI:FA Tryz.prog 27 0 0:=by
 have h:=ef (k:=0) runUnderlying27 rfl aJ;exact h
theorem jh:FA Tryz.prog 27 1 1:=by
 have h:=ef (k:=1) runUnderlying27 rfl sizeOf23;exact h
theorem lW:FA Tryz.prog 27 2 2:=by
 have h:=ef (k:=2) runUnderlying27 rfl sizeOf24;exact h
theorem qH:FA Tryz.prog 27 3 3:=by
 have h:=ef (k:=3) runUnderlying27 rfl aJ;exact h
theorem oU:FA Tryz.prog 31 0 0:=by
 have h:=ef (k:=0) runUnderlying31 rfl ak;exact h
theorem oT:FA Tryz.prog 31 1 1:=by
 have h:=ef (k:=1) runUnderlying31 rfl ak;exact h
theorem dT:FA Tryz.prog 33 0 0:=by
 have h:=ef (k:=0) uS rfl ak;exact h
theorem db:FA Tryz.prog 33 1 1:=by
 have h:=ef (k:=1) uS rfl ak;exact h
theorem bw:FA Tryz.prog 33 2 2:=by
 have h:=ef (k:=2) uS rfl aJ;exact h
theorem bg:FA Tryz.prog 33 3 3:=by
 have h:=ef (k:=3) uS rfl aJ;exact h
theorem eQ:FA Tryz.prog 33 4 4:=by
 have h:=ef (k:=4) uS rfl sizeOf31;exact h
theorem bj:FA Tryz.prog 37 0 0:=by
 have h:=ef (k:=0) runUnderlying37 rfl aI;exact h
theorem aS:FA Tryz.prog 37 1 6:=by
 have h:=ef (k:=1) runUnderlying37 rfl Gu;exact h
theorem dz:FA Tryz.prog 37 2 7:=by
 have h:=ef (k:=2) runUnderlying37 rfl P3;exact h
theorem eS:FA Tryz.prog 42 0 0:=by
 have h:=ef (k:=0) runUnderlying42 rfl sizeOf40;exact h
theorem CF:FA Tryz.prog 51 0 0:=by
 have h:=ef (k:=0) runUnderlying51 rfl ak;exact h
theorem kL:FA Tryz.prog 51 1 1:=by
 have h:=ef (k:=1) runUnderlying51 rfl ak;exact h
theorem ig:FA Tryz.prog 51 2 2:=by
 have h:=ef (k:=2) runUnderlying51 rfl ak;exact h
theorem bR:FA Tryz.prog 55 0 0:=by
 have h:=ef (k:=0) runUnderlying55 rfl ak;exact h
theorem cg:FA Tryz.prog 55 1 1:=by
 have h:=ef (k:=1) runUnderlying55 rfl ak;exact h
theorem AX:FA Tryz.prog 58 1 1:=by
 have h:=ef (k:=1) runUnderlying58 rfl ak;exact h
theorem ek:FA Tryz.prog 58 2 2:=by
 have h:=ef (k:=2) runUnderlying58 rfl aM;exact h
theorem iG:FA Tryz.prog 58 3 10:=by
 have h:=ef (k:=3) runUnderlying58 rfl sizeOf56;exact h
theorem CG:FA Tryz.prog 69 0 0:=by
 have h:=ef (k:=0) runUnderlying69 rfl ak;exact h
theorem lB:FA Tryz.prog 74 0 0:=by
 have h:=ef (k:=0) uR rfl ak;exact h
theorem lA:FA Tryz.prog 74 1 1:=by
 have h:=ef (k:=1) uR rfl ak;exact h
theorem fi:FA Tryz.prog 76 0 0:=by
 have h:=ef (k:=0) jr rfl ak;exact h
theorem gg:FA Tryz.prog 76 1 1:=by
 have h:=ef (k:=1) jr rfl ak;exact h
theorem fZ:FA Tryz.prog 76 2 2:=by
 have h:=ef (k:=2) jr rfl ak;exact h
theorem eE:FA Tryz.prog 76 3 3:=by
 have h:=ef (k:=3) jr rfl ak;exact h
theorem cR:FA Tryz.prog 76 4 4:=by
 have h:=ef (k:=4) jr rfl ak;exact h
theorem eD:FA Tryz.prog 76 5 5:=by
 have h:=ef (k:=5) jr rfl ak;exact h
theorem dW:FA Tryz.prog 76 6 6:=by
 have h:=ef (k:=6) jr rfl ak;exact h
theorem gu:FA Tryz.prog 78 0 0:=by
 have h:=ef (k:=0) kX rfl ak;exact h
theorem jT:FA Tryz.prog 78 1 1:=by
 have h:=ef (k:=1) kX rfl ak;exact h
theorem iC:FA Tryz.prog 78 2 2:=by
 have h:=ef (k:=2) kX rfl ak;exact h
theorem gq:FA Tryz.prog 78 3 3:=by
 have h:=ef (k:=3) kX rfl ak;exact h
theorem iB:FA Tryz.prog 78 4 4:=by
 have h:=ef (k:=4) kX rfl ak;exact h
theorem gj:FA Tryz.prog 78 5 5:=by
 have h:=ef (k:=5) kX rfl ak;exact h
theorem dm:FA Tryz.prog 80 0 0:=by
 have h:=ef (k:=0) dE rfl fq;exact h
theorem dc:FA Tryz.prog 80 1 2:=by
 have h:=ef (k:=1) dE rfl ak;exact h
theorem gJ:FA Tryz.prog 80 2 3:=by
 have h:=ef (k:=2) dE rfl ak;exact h
theorem eT:FA Tryz.prog 80 3 4:=by
 have h:=ef (k:=3) dE rfl ak;exact h
theorem jM:FA Tryz.prog 80 4 5:=by
 have h:=ef (k:=4) dE rfl ak;exact h
theorem fB:FA Tryz.prog 80 5 6:=by
 have h:=ef (k:=5) dE rfl ak;exact h
theorem ep:FA Tryz.prog 80 6 7:=by
 have h:=ef (k:=6) dE rfl ak;exact h
theorem iJ:FA Tryz.prog 80 7 8:=by
 have h:=ef (k:=7) dE rfl ak;exact h
theorem iI:FA Tryz.prog 80 8 9:=by
 have h:=ef (k:=8) dE rfl ak;exact h
theorem dk:FA Tryz.prog 80 9 10:=by
 have h:=ef (k:=9) dE rfl aI;exact h
theorem eX:FA Tryz.prog 80 10 16:=by
 have h:=ef (k:=10) dE rfl bF;exact h
theorem fN:FA Tryz.prog 80 11 23:=by
 have h:=ef (k:=11) dE rfl dO;exact h
theorem qL:FA Tryz.prog 80 12 29:=by
 have h:=ef (k:=12) dE rfl fq;exact h
theorem qG:FA Tryz.prog 84 0 0:=by
 have h:=ef (k:=0) runUnderlying84 rfl sizeOf27;exact h
theorem qE:FA Tryz.prog 84 1 7:=by
 have h:=ef (k:=1) runUnderlying84 rfl aJ;exact h
theorem qD:FA Tryz.prog 84 2 8:=by
 have h:=ef (k:=2) runUnderlying84 rfl sizeOf82;exact h
theorem dy:FA Tryz.prog 84 3 9:=by
 have h:=ef (k:=3) runUnderlying84 rfl a8;exact h
theorem cq:FA Tryz.prog 86 0 0:=by
 have h:=ef (k:=0) runUnderlying86 rfl sizeOf84;exact h
theorem nR:FA Tryz.prog 86 1 14:=by
 have h:=ef (k:=1) runUnderlying86 rfl aJ;exact h
theorem eP:FA Tryz.prog 86 2 15:=by
 have h:=ef (k:=2) runUnderlying86 rfl sizeOf28;exact h
theorem gH:FA Tryz.prog 86 3 17:=by
 have h:=ef (k:=3) runUnderlying86 rfl sizeOf25;exact h
theorem lC:FA Tryz.prog 90 0 0:=by
 have h:=ef (k:=0) Gw rfl ak;exact h
theorem so:FA Tryz.prog 90 1 1:=by
 have h:=ef (k:=1) Gw rfl ak;exact h
theorem dU:FA Tryz.prog 90 2 2:=by
 have h:=ef (k:=2) Gw rfl sizeOf87;exact h
theorem jL:FA Tryz.prog 90 3 3:=by
 have h:=ef (k:=3) Gw rfl sizeOf88;exact h
theorem dj:FA Tryz.prog 93 0 0:=by
 have h:=ef (k:=0) runUnderlying93 rfl sizeOf91;exact h
theorem dh:FA Tryz.prog 98 0 0:=by
 have h:=ef (k:=0) Gv rfl ak;exact h
theorem iA:FA Tryz.prog 98 1 1:=by
 have h:=ef (k:=1) Gv rfl ak;exact h
theorem mc:FA Tryz.prog 98 2 2:=by
 have h:=ef (k:=2) Gv rfl ak;exact h
theorem jS:FA Tryz.prog 98 3 3:=by
 have h:=ef (k:=3) Gv rfl ea;exact h
theorem wY:FA Tryz.prog 103 0 0:=by
 have h:=ef (k:=0) rV rfl ak;exact h
theorem lX:FA Tryz.prog 103 1 1:=by
 have h:=ef (k:=1) rV rfl ak;exact h
theorem kx:FA Tryz.prog 103 2 2:=by
 have h:=ef (k:=2) rV rfl ak;exact h
theorem eW:FA Tryz.prog 103 3 3:=by
 have h:=ef (k:=3) rV rfl a8;exact h
theorem jk:FA Tryz.prog 103 4 5:=by
 have h:=ef (k:=4) rV rfl a8;exact h
theorem eo:FA Tryz.prog 109 0 0:=by
 have h:=ef (k:=0) Dm rfl ak;exact h
theorem eR:FA Tryz.prog 109 1 1:=by
 have h:=ef (k:=1) Dm rfl ak;exact h
theorem gI:FA Tryz.prog 109 2 2:=by
 have h:=ef (k:=2) Dm rfl ak;exact h
theorem lE:FA Tryz.prog 109 3 3:=by
 have h:=ef (k:=3) Dm rfl ak;exact h
theorem bT:FA Tryz.prog 112 0 0:=by
 have h:=ef (k:=0) runUnderlying112 rfl ak;exact h
theorem bS:FA Tryz.prog 112 1 1:=by
 have h:=ef (k:=1) runUnderlying112 rfl sizeOf110;exact h
theorem pD:FA Tryz.prog 127 0 0:=by
 have h:=ef (k:=0) mG rfl ak;exact h
theorem me:FA Tryz.prog 127 1 1:=by
 have h:=ef (k:=1) mG rfl ak;exact h
theorem cD:FA Tryz.prog 138 0 0:=by
 have h:=ef (k:=0) Zb rfl ak;exact h
theorem cC:FA Tryz.prog 138 1 1:=by
 have h:=ef (k:=1) Zb rfl ak;exact h
theorem dZ:FA Tryz.prog 138 2 2:=by
 have h:=ef (k:=2) Zb rfl ak;exact h
theorem di:FA Tryz.prog 147 0 0:=by
 have h:=ef (k:=0) rU rfl Ap;exact h
theorem fA:FA Tryz.prog 147 1 11:=by
 have h:=ef (k:=1) rU rfl fQ;exact h
theorem jK:FA Tryz.prog 147 2 12:=by
 have h:=ef (k:=2) rU rfl P3;exact h
theorem lz:FA Tryz.prog 147 3 13:=by
 have h:=ef (k:=3) rU rfl Ji;exact h
theorem lx:FA Tryz.prog 147 4 14:=by
 have h:=ef (k:=4) rU rfl Ji;exact h
theorem CI:FA Tryz.prog 149 0 0:=by
 have h:=ef (k:=0) runUnderlying149 rfl sizeOf69;exact h
theorem CH:FA Tryz.prog 149 1 6:=by
 have h:=ef (k:=1) runUnderlying149 rfl aM;exact h
theorem lV:FA Tryz.prog 153 0 0:=by
 have h:=ef (k:=0) Za rfl aZ;exact h
theorem lU:FA Tryz.prog 153 1 2:=by
 have h:=ef (k:=1) Za rfl aJ;exact h
theorem lT:FA Tryz.prog 153 2 3:=by
 have h:=ef (k:=2) Za rfl ak;exact h
theorem mR:FA Tryz.prog 167 0 0:=by
 have h:=ef (k:=0) Dk rfl aM;exact h
theorem gU:FA Tryz.prog 167 2 12:=by
 have h:=ef (k:=2) Dk rfl sizeOf91;exact h
theorem kK:FA Tryz.prog 167 3 13:=by
 have h:=ef (k:=3) Dk rfl sizeOf165;exact h
theorem ji:FA Tryz.prog 167 4 14:=by
 have h:=ef (k:=4) Dk rfl aJ;exact h
theorem wq:FA Tryz.prog 202 0 0:=by
 have h:=ef (k:=0) Y9 rfl sizeOf199;exact h
theorem wm:FA Tryz.prog 202 1 1:=by
 have h:=ef (k:=1) Y9 rfl sizeOf200;exact h
theorem wk:FA Tryz.prog 202 2 2:=by
 have h:=ef (k:=2) Y9 rfl ak;exact h
theorem cM:FA Tryz.prog 207 0 0:=by
 have h:=ef (k:=0) runUnderlying207 rfl Aq;exact h
theorem fG:FA Tryz.prog 207 1 3:=by
 have h:=ef (k:=1) runUnderlying207 rfl aI;exact h
theorem dq:FA Tryz.prog 221 0 0:=by
 have h:=ef (k:=0) Y8 rfl aM;exact h
theorem gx:FA Tryz.prog 221 1 8:=by
 have h:=ef (k:=1) Y8 rfl sizeOf124;exact h
theorem kJ:FA Tryz.prog 221 2 9:=by
 have h:=ef (k:=2) Y8 rfl sizeOf110;exact h
theorem dM:FA Tryz.prog 225 0 0:=by
 have h:=ef (k:=0) runUnderlying225 rfl ak;exact h
theorem gy:FA Tryz.prog 225 1 1:=by
 have h:=ef (k:=1) runUnderlying225 rfl ak;exact h
theorem qK:FA Tryz.prog 227 0 0:=by
 have h:=ef (k:=0) Dj rfl ak;exact h
theorem kN:FA Tryz.prog 227 1 1:=by
 have h:=ef (k:=1) Dj rfl ak;exact h
theorem kM:FA Tryz.prog 227 2 2:=by
 have h:=ef (k:=2) Dj rfl ak;exact h
theorem qJ:FA Tryz.prog 227 3 3:=by
 have h:=ef (k:=3) Dj rfl ak;exact h
theorem sm:FA Tryz.prog 243 0 0:=by
 have h:=ef (k:=0) runUnderlying243 rfl aJ;exact h
theorem iH:FA Tryz.prog 249 0 0:=by
 have h:=ef (k:=0) runUnderlying249 rfl ak;exact h
theorem lF:FA Tryz.prog 249 1 1:=by
 have h:=ef (k:=1) runUnderlying249 rfl ak;exact h
theorem fM:FA Tryz.prog 255 0 0:=by
 have h:=ef (k:=0) Y7 rfl aZ;exact h
theorem jj:FA Tryz.prog 255 1 2:=by
 have h:=ef (k:=1) Y7 rfl aJ;exact h
theorem dS:FA Tryz.prog 255 2 3:=by
 have h:=ef (k:=2) Y7 rfl aJ;exact h
theorem cZ:FA Tryz.prog 321 0 0:=by
 have h:=ef (k:=0) Di rfl ak;exact h
theorem df:FA Tryz.prog 321 1 1:=by
 have h:=ef (k:=1) Di rfl ak;exact h
theorem fL:FA Tryz.prog 321 2 2:=by
 have h:=ef (k:=2) Di rfl ak;exact h
theorem dR:FA Tryz.prog 321 3 3:=by
 have h:=ef (k:=3) Di rfl ak;exact h
theorem w6:qY Tryz.prog 31 [(0,1),(1,1)] [I 0,I 0]:=jN zeroValue31 rfl runUnderlying31 br
theorem oY:qY Tryz.prog 33 [(0,1),(1,1),(2,1),(3,1),(4,2)] [I 0,I 0,.slice none 0 0,.slice none 0 0,I 0,I 0]:=jN i6 rfl uS br
theorem sy:qY Tryz.prog 37 [(0,6),(6,1),(7,1)] [I 0,I 0,.slice none 0 0,.slice none 0 0,I 0,I 0,.slice none 0 0,.slice none 0 0]:=jN kl rfl runUnderlying37 br
theorem qS:qY Tryz.prog 42 [(0,1)] [.slice none 0 0]:=jN l5 rfl runUnderlying42 br
theorem qR:qY Tryz.prog 51 [(0,1),(1,1),(2,1)] [I 0,I 0,I 0]:=jN zeroValue51 rfl runUnderlying51 br
theorem ew:qY Tryz.prog 55 [(0,1),(1,1)] [I 0,I 0]:=jN gW rfl runUnderlying55 br
theorem uK:qY Tryz.prog 58 [(0,1),(1,1),(2,8),(10,1)] [I 0,I 0,I 0,I 0,.slice none 0 0,.slice none 0 0,I 0,I 0,.slice none 0 0,.slice none 0 0,.slice none 0 0]:=jN Jh rfl runUnderlying58 br
theorem EF:qY Tryz.prog 69 [(0,1),(1,1),(2,1),(3,1),(4,2)] [I 0,I 0,I 0,I 0,I 0,I 0]:=jN zeroValue69 rfl runUnderlying69 br
theorem oZ:qY Tryz.prog 74 [(0,1),(1,1)] [I 0,I 0]:=jN zeroValue74 rfl uR br
theorem zX:qY Tryz.prog 76 [(0,1),(1,1),(2,1),(3,1),(4,1),(5,1),(6,1)] [I 0,I 0,I 0,I 0,I 0,I 0,I 0]:=jN kj rfl jr br
theorem zY:qY Tryz.prog 78 [(0,1),(1,1),(2,1),(3,1),(4,1),(5,1)] [I 0,I 0,I 0,I 0,I 0,I 0]:=jN rR rfl kX br
theorem gC:qY Tryz.prog 80 [(0,2),(2,1),(3,1),(4,1),(5,1),(6,1),(7,1),(8,1),(9,1),(10,6),(16,7),(23,6),(29,2)] [I 0,I 0,I 0,I 0,I 0,I 0,I 0,I 0,I 0,I 0,I 0,I 0,.slice none 0 0,.slice none 0 0,I 0,I 0,I 0,I 0,I 0,I 0,I 0,I 0,I 0,I 0,I 0,I 0,I 0,I 0,I 0,I 0,I 0]:=jN dA rfl dE br
theorem CU:qY Tryz.prog 90 [(0,1),(1,1),(2,1),(3,1)] [I 0,I 0,.slice none 0 0,.slice none 0 0]:=jN Y5 rfl Gw br
theorem kR:qY Tryz.prog 98 [(0,1),(1,1),(2,1),(3,1)] [I 0,I 0,I 0,.slice none 0 0]:=jN zeroValue98 rfl Gv br
theorem tn:qY Tryz.prog 103 [(0,1),(1,1),(2,1),(3,2),(5,2)] [I 0,I 0,I 0,I 0,I 0,I 0,I 0]:=jN eF rfl rV br
theorem dX:qY Tryz.prog 109 [(0,1),(1,1),(2,1),(3,1)] [I 0,I 0,I 0,I 0]:=jN gZ rfl Dm br
theorem lG:qY Tryz.prog 112 [(0,1),(1,1)] [I 0,.slice none 0 0]:=jN fP rfl runUnderlying112 br
theorem jo:qY Tryz.prog 127 [(0,1),(1,1)] [I 0,I 0]:=jN uW rfl mG br
theorem uJ:qY Tryz.prog 138 [(0,1),(1,1),(2,1)] [I 0,I 0,I 0]:=jN pb rfl Zb br
theorem CT:qY Tryz.prog 147 [(0,11),(11,1),(12,1),(13,1),(14,1),(15,1)] [I 0,I 0,I 0,I 0,.slice none 0 0,.slice none 0 0,I 0,I 0,.slice none 0 0,.slice none 0 0,.slice none 0 0,.bool false,.slice none 0 0,.slice none 0 0,.slice none 0 0,.slice none 0 0]:=jN zeroValue147 rfl rU br
theorem EG:qY Tryz.prog 149 [(0,6),(6,8)] [I 0,I 0,I 0,I 0,I 0,I 0,I 0,I 0,.slice none 0 0,.slice none 0 0,I 0,I 0,.slice none 0 0,.slice none 0 0]:=jN zeroValue149 rfl runUnderlying149 br
theorem gP:qY Tryz.prog 153 [(0,2),(2,1),(3,1)] [I 0,.slice none 0 0,.slice none 0 0,I 0]:=jN EY rfl Za br
theorem gK:qY Tryz.prog 167 [(0,8),(8,4),(12,1),(13,1),(14,1)] [I 0,I 0,.slice none 0 0,.slice none 0 0,I 0,I 0,.slice none 0 0,.slice none 0 0,I 0,I 0,.slice none 0 0,.slice none 0 0,.slice none 0 0,.slice none 0 0,.slice none 0 0]:=jN uV rfl Dk br
theorem jW:qY Tryz.prog 202 [(0,1),(1,1),(2,1)] [.nilFunc,.nilFunc,I 0]:=jN zeroValue202 rfl Y9 br
theorem xI:qY Tryz.prog 207 [(0,3),(3,6)] [I 0,I 0,I 0,I 0,I 0,.slice none 0 0,.slice none 0 0,I 0,I 0]:=jN zeroValue207 rfl runUnderlying207 br
theorem wA:qY Tryz.prog 221 [(0,8),(8,1),(9,1)] [I 0,I 0,.slice none 0 0,.slice none 0 0,I 0,I 0,.slice none 0 0,.slice none 0 0,.slice none 0 0,.slice none 0 0]:=jN zeroValue221 rfl Y8 br
theorem lq:qY Tryz.prog 225 [(0,1),(1,1)] [I 0,I 0]:=jN uU rfl runUnderlying225 br
theorem A2:qY Tryz.prog 227 [(0,1),(1,1),(2,1),(3,1)] [I 0,I 0,I 0,I 0]:=jN SE rfl Dj br
theorem CS:qY Tryz.prog 243 [(0,1)] [.slice none 0 0]:=jN zeroValue243 rfl runUnderlying243 br
theorem CV:qY Tryz.prog 249 [(0,1),(1,1)] [I 0,I 0]:=jN zeroValue249 rfl runUnderlying249 br
theorem su:qY Tryz.prog 255 [(0,2),(2,1),(3,1)] [I 0,.slice none 0 0,.slice none 0 0,.slice none 0 0]:=jN zeroValue255 rfl Y7 br
theorem sr:qY Tryz.prog 321 [(0,1),(1,1),(2,1),(3,1)] [I 0,I 0,I 0,I 0]:=jN gX rfl Di br
theorem w5:xO Tryz.prog 22 0 1 []:=mV af ak du e9 au
theorem bJ:xO Tryz.prog 22 1 1 [I 0]:=mV af ak du e9 au
theorem fC:xO Tryz.prog 22 2 1 [I 0,I 0]:=mV af ak du e9 au
theorem nF:xO Tryz.prog 22 3 1 [I 0,I 0,I 0]:=mV af ak du e9 au
theorem rN:xO Tryz.prog 34 0 7 []:=mV aV bF kj e9 au
theorem ez:xO Tryz.prog 34 1 7 [I 0,I 0,I 0,I 0,I 0,I 0,I 0]:=mV aV bF kj e9 au
theorem rO:xO Tryz.prog 35 0 6 []:=mV cQ dO rR e9 au
theorem jE:xO Tryz.prog 35 1 6 [I 0,I 0,I 0,I 0,I 0,I 0]:=mV cQ dO rR e9 au
theorem sq:xO Tryz.prog 40 1 1 [.slice none 0 0]:=mV az aJ gY e9 au
theorem A1:xO Tryz.prog 40 2 1 [.slice none 0 0,.slice none 0 0]:=mV az aJ gY e9 au
theorem iV:xO Tryz.prog 44 1 31 [I 0,I 0,I 0,I 0,I 0,I 0,I 0,I 0,I 0,I 0,I 0,I 0,.slice none 0 0,.slice none 0 0,I 0,I 0,I 0,I 0,I 0,I 0,I 0,I 0,I 0,I 0,I 0,I 0,I 0,I 0,I 0,I 0,I 0]:=mV aN aH dA e9 au
theorem uI:xO Tryz.prog 44 2 31 [I 0,I 0,I 0,I 0,I 0,I 0,I 0,I 0,I 0,I 0,I 0,I 0,.slice none 0 0,.slice none 0 0,I 0,I 0,I 0,I 0,I 0,I 0,I 0,I 0,I 0,I 0,I 0,I 0,I 0,I 0,I 0,I 0,I 0,I 0,I 0,I 0,I 0,I 0,I 0,I 0,I 0,I 0,I 0,I 0,I 0,.slice none 0 0,.slice none 0 0,I 0,I 0,I 0,I 0,I 0,I 0,I 0,I 0,I 0,I 0,I 0,I 0,I 0,I 0,I 0,I 0,I 0]:=mV aN aH dA e9 au
theorem wz:xO Tryz.prog 56 1 14 [I 0,I 0,I 0,I 0,I 0,I 0,I 0,I 0,.slice none 0 0,.slice none 0 0,I 0,I 0,.slice none 0 0,.slice none 0 0]:=mV eI A9 zeroValue149 e9 au
theorem pU:xO Tryz.prog 87 3 2 [I 0,I 0,I 0,I 0,I 0,I 0]:=mV eH gN uU e9 au
theorem tm:xO Tryz.prog 88 1 4 [I 0,I 0,I 0,I 0]:=mV kW uQ SE e9 au
theorem mh:xO Tryz.prog 91 1 7 [I 0,I 0,I 0,I 0,I 0,I 0,I 0]:=mV bN bI eF e9 au
theorem uH:xO Tryz.prog 110 1 4 [I 0,I 0,I 0,I 0]:=mV aW bU gZ e9 au
theorem fc:xO Tryz.prog 110 2 4 [I 0,I 0,I 0,I 0,I 0,I 0,I 0,I 0]:=mV aW bU gZ e9 au
theorem jD:xO Tryz.prog 124 1 2 [I 0,I 0]:=mV bL cH uW e9 au
theorem gz:xO Tryz.prog 145 1 2 [I 0,I 0]:=mV runUnderlying145 fq zeroValue74 e9 au
theorem nG:xO Tryz.prog 165 1 2 [I 0,I 0]:=mV fT a8 gW e9 au
theorem CR:xO Tryz.prog 222 6 1 [.nilFunc,.nilFunc,.nilFunc,.nilFunc,.nilFunc,.nilFunc]:=mV runUnderlying222 sizeOf1 zeroValue1 e9 au
theorem tl:xO Tryz.prog 296 1 4 [I 0,I 0,I 0,I 0]:=mV aC aR gX e9 au
theorem bO:Gt Tryz.prog 22 22 3 1 8:=⟨af,af,ak,⟨_,uP,rfl,by decide⟩,⟨_,du,rfl⟩⟩
theorem cf:Gt Tryz.prog 34 34 76 7 56:=⟨aV,aV,bF,⟨_,typeInfo76,rfl,by decide⟩,⟨_,kj,rfl⟩⟩
theorem dd:Gt Tryz.prog 35 35 78 6 48:=⟨cQ,cQ,dO,⟨_,typeInfo78,rfl,by decide⟩,⟨_,rR,rfl⟩⟩
theorem mX:Gt Tryz.prog 40 40 22 1 24:=⟨az,az,aJ,⟨_,typeInfo22,rfl,by decide⟩,⟨_,gY,rfl⟩⟩
theorem fY:Gt Tryz.prog 44 44 80 31 280:=⟨aN,aN,aH,⟨_,typeInfo80,rfl,by decide⟩,⟨_,dA,rfl⟩⟩
theorem oE:Gt Tryz.prog 56 56 149 14 176:=⟨eI,eI,A9,⟨_,typeInfo149,rfl,by decide⟩,⟨_,zeroValue149,rfl⟩⟩
theorem mD:Gt Tryz.prog 88 88 227 4 32:=⟨kW,kW,uQ,⟨_,typeInfo227,rfl,by decide⟩,⟨_,SE,rfl⟩⟩
theorem pV:Gt Tryz.prog 91 91 103 7 56:=⟨bN,bN,bI,⟨_,typeInfo103,rfl,by decide⟩,⟨_,eF,rfl⟩⟩
theorem cj:Gt Tryz.prog 110 110 109 4 32:=⟨aW,aW,bU,⟨_,typeInfo109,rfl,by decide⟩,⟨_,gZ,rfl⟩⟩
theorem eY:Gt Tryz.prog 124 124 127 2 16:=⟨bL,bL,cH,⟨_,typeInfo127,rfl,by decide⟩,⟨_,uW,rfl⟩⟩
theorem dI:Gt Tryz.prog 145 145 74 2 16:=⟨runUnderlying145,runUnderlying145,fq,⟨_,typeInfo74,rfl,by decide⟩,⟨_,zeroValue74,rfl⟩⟩
theorem ni:Gt Tryz.prog 165 165 55 2 16:=⟨fT,fT,a8,⟨_,typeInfo55,rfl,by decide⟩,⟨_,gW,rfl⟩⟩
theorem mC:Gt Tryz.prog 296 296 321 4 32:=⟨aC,aC,aR,⟨_,Y6,rfl,by decide⟩,⟨_,gX,rfl⟩⟩
theorem fH{w:World}(hs:St H w σ):aaA 115 [I a0,I a1,I a2] w fun v w'=>v= .bool (decide (a1≤a0∧a0≤a2))∧St H w' σ:=by
 refine Cl.o func115 ntmps115 ag3 ?_;refine .ae (.zn zg (.ae (.z zm (.z zm (.z rl (.z zm (.mW (t':=10) rfl (fun qy=>?_) (fun qy=>?_))))))))
 ·exact .T (.z zm (.T (.z zm (.T (.z rl (.z zpT (.zn zg (.ret (Fin.bp results115 rfl ⟨by simp [*],hs.out⟩)))))))))
 ·exact .Fs 3 3 true (.z zpF (.zn zg (.ret (Fin.bp results115 rfl ⟨by simp [*],hs.out⟩))))
theorem uE{w:World}{many:Int}{l:Lim}(hs:St H w σ):aaA 190 [I many,.agg l.c.toArray] w fun v w'=>v= .bool (l.ok many)∧St H w' σ:=by
 refine Cl.o func190 ntmps190 ag2 ?_;refine .ae (.bx hs fun b3 w hs=>?_);refine .zn zg (.ae (.z (zfa eo) (.y hs (zld ai) (.z zm (.o (.call call115 rfl (fH hs) ?_))))));rintro _ w ⟨rfl,hs⟩;refine .z zm (.bif (t':=9) rfl (fun Ug=>?_) (fun Ug=>?_))
 ·refine .T (.z (zfa eR) (.T (.y hs (zld ai) (.T (.z zm (.T (.o (.call call115 rfl (fH hs) ?_))))))));rintro _ w ⟨rfl,hs⟩;refine .z zpT (.z zm (.bif (t':=15) rfl (fun Em=>?_) (fun Em=>?_)))
  ·refine .T (.z (zfa eo) (.T (.y hs (zld ai) (.T (.z (zfa eR) (.T (.y hs (zld ai) (.T (.z gE (.z zpT (.z zm (.Js (t':=22) rfl (fun Rp=>?_) (fun Rp=>?_)))))))))))))
   ·refine .T (.z (zfa gI) (.T (.y hs (zld ai) (.T (.o (.call call115 rfl (fH hs) ?_))))));rintro _ w ⟨rfl,hs⟩;refine .z zpT (.z zm (.bif (t':=27) rfl (fun uq=>?_) (fun uq=>?_)))
    ·refine .T (.z (zfa lE) (.T (.y hs (zld ai) (.T (.o (.call call115 rfl (fH hs) ?_))))));rintro _ w ⟨rfl,hs⟩;exact .z zpT (.zn zg (.ret (Fin.bp results190 rfl ⟨by simp [Lim.ok, *],hs.out⟩)))
    ·exact .Fs 3 22 true (.z zpF (.zn zg (.ret (Fin.bp results190 rfl ⟨by simp [Lim.ok, *],hs.out⟩))))
   ·exact .Fs 3 17 true (.z zpF (.z zm (.Fs 3 22 true (.z zpF (.zn zg (.ret (Fin.bp results190 rfl ⟨by simp [Lim.ok, *],hs.out⟩)))))))
  ·exact .Fs 5 10 true (.z zpF (.z zm (.Fs 3 17 true (.z zpF (.z zm (.Fs 3 22 true (.z zpF (.zn zg (.ret (Fin.bp results190 rfl ⟨by simp [Lim.ok, *],hs.out⟩))))))))))
 ·exact .Fs 4 4 true (.z zpF (.z zm (.Fs 5 10 true (.z zpF (.z zm (.Fs 3 17 true (.z zpF (.z zm (.Fs 3 22 true (.z zpF (.zn zg (.ret (Fin.bp results190 rfl ⟨by simp [Lim.ok, *],hs.out⟩)))))))))))))
theorem C2{w:World}{v:Value}{p:Lim→Bool}(hs:St H w σ)(hr:RL H v ls)
  (hc:∀args w,(callFunc g args).run Tryz.prog w= .ok (.enter g args) w) (hp:∀w l,St H w σ→aaA g ([.agg l.c.toArray]++cap) w fun u w'=>u= .bool (p l)∧St H w' σ):
  aaA 235 [v,.func (.func g) #[] cap.toArray] w fun u w'=>u=I (match ls.findIdx? p with|some k=>(k:Int)|none=> -1)∧St H w' σ:=by
 obtain ⟨a,c,rfl⟩:=RS.shape hr;have hl:=(RS.len hr).2.2;refine Cl.o func235 ntmps235 ag2 ?_;refine .ae (.zn zg (.seq (.ae (.z zm (.q hs (J8 hr rfl aW) (.zn zm (.for (N:=(ls.map Lim.c).length) (J:=fun k fr w=>fr=[(1,.func (.func g) #[] cap.toArray),(0,.slice a (ls.map Lim.c).length c)]∧St H w σ∧∀j<k,∀l,ls[j]? =some l→p l=false) aj ?_ ?_ ?_)))))))
 ·exact .mk ⟨rfl,hs,fun j hj=>by omega⟩
 ·rintro k fr w hk ⟨rfl,hs,fF⟩;obtain ⟨l,hl⟩:=nth (l:=ls) (by simpa using hk);refine .block (.ae (.z zm (.zn zg (.ae (.z zm (.z zm (.z zm (.ixX hs hr rfl rfl aW bU hl rfl ?_))))))));intro tt o14 iW;refine .y hs (zls [_,_,_,_] mw bU) (.o (.ng (first:=[]) rfl rfl hc (hp _ _ hs) ?_));rintro _ w ⟨rfl,hs⟩;refine .nil (.cond rfl (fun ee=>?_) (fun ee=>?_))
  ·exact .ae (.z zm (.zn zg (.ret (rB (rT (rB (rT (Fin.bp results235 rfl ⟨by rw [zL hl ee fF],hs⟩))))))))
  ·exact .skip (nB (nT (.mk ⟨rfl,hs,gv fF hl ee⟩)))
 ·rintro fr w ⟨rfl,hs,fF⟩;exact nT (.ae (.zn zg (.ret (Fin.bp results235 rfl ⟨by rw [wX (by simpa using fF)],hs⟩))))
theorem xL{w:World}{v:Value}{p:Lim→Bool}(hs:St H w σ)(hr:RL H v ls)
  (hc:∀args w,(callFunc g args).run Tryz.prog w= .ok (.enter g args) w) (hp:∀w l,St H w σ→aaA g ([.agg l.c.toArray]++cap) w fun u w'=>u= .bool (p l)∧St H w' σ):
  aaA 188 [v,.func (.func g) #[] cap.toArray] w fun u w'=>u= .bool (ls.any p)∧St H w' σ:=by
 refine Cl.o func188 ntmps188 ag2 ?_;refine .ae (.zn zg (.ae (.z zm (.z zm (.o (.call call235 rfl (C2 hs hr hc hp) ?_))))));rintro _ w ⟨rfl,hs⟩;exact .z Bd (.zn zg (.ret (Fin.bp results188 rfl ⟨by rw [Gm];cases ls.findIdx? p<;>simp<;>omega,hs⟩)))
theorem CQ{w:World}{many:Int}{v:Value}{l:Lim}(hs:St H w σ)(hm:Mem σ (.blk b [I many,v])):aaA 189 [.agg l.c.toArray,Pt b] w fun v w'=>v= .bool (!l.ok many)∧St H w' σ:=by
 refine Cl.o func189 ntmps189 ag2 ?_;refine .ae (.bx hs fun b2 w hs=>?_);refine .zn zg (.ae (.z (zfa bT) (.q hs (fJ rfl ai (.there hm) rfl) (.q hs (jA (vs:=l.c) rfl mw bU) (.o (.call call190 rfl (uE hs) ?_))))));rintro _ w ⟨rfl,hs⟩;exact .z im (.zn zg (.ret (Fin.bp results189 rfl ⟨rfl,hs.out⟩)))
theorem jV{w:World}{v:Value}{s:cN}(hs:St H w σ)(hr:RSy H v s):aaA 113 [v] w fun v w'=>v=I s.check∧St H w' σ:=by
 obtain ⟨u,rfl,hr⟩:=hr;obtain ⟨a,c,rfl⟩:=RS.shape hr;refine Cl.o func113 ntmps113 ag1 ?_;refine .ae (.bx hs fun b1 w hs=>?_);refine .zn zg (.seq (.block (.ae (.z (zfa bT) (.y hs (zld ai) (.o (.call call115 rfl (fH hs) ?_)))))));rintro _ w ⟨rfl,hs⟩;refine .z im (.zn zg (.cond rfl (fun hc3=>?_) (fun hc3=>?_)))
 ·exact .ae (.zn zg (.ret (rB (rT (Fin.bp results113 rfl ⟨congrArg I (by unfold cN.check;(repeat' split)<;>simp_all<;>omega),hs.out⟩)))))
 ·refine .ae (.z (zfa bS) (.y hs (zld ft) (.q hs (J8 hr rfl aW) (.z q5 (.zn zg (.bX rfl (fun Db=>?_) (fun Db=>?_)))))))
  ·exact .ae (.zn zg (.ret (rB (rT (Fin.bp results113 rfl ⟨congrArg I (by unfold cN.check;(repeat' split)<;>simp_all<;>omega),hs.out⟩)))))
  ·refine .ae (.z (zfa bS) (.y hs (zld ft) (.q hs (cV (f:=[]) (c:=[_]) rfl rfl) (.o (.call call188 rfl (xL (p:=fun l=> !l.ok s.many) hs hr call189 (fun w l hs=>CQ hs .here)) ?_)))));rintro _ w ⟨rfl,hs⟩;refine .zn zg (.cond rfl (fun iX=>?_) (fun iX=>?_))
   ·exact .ae (.zn zg (.ret (rB (rT (Fin.bp results113 rfl ⟨congrArg I (by unfold cN.check;(repeat' split)<;>simp_all<;>omega),hs.out⟩)))))
   ·exact .skip (nB (nT (.ae (.zn zg (.ret (Fin.bp results113 rfl ⟨congrArg I (by unfold cN.check;(repeat' split)<;>simp_all<;>omega),hs.out⟩))))))
theorem uC{s:cN}{u:Value}(bh:s.Ok)(hb:Row H b [I s.many,u])(hr:RL H u s.cu):ItA Tryz.prog 242 [Pt b] H s.da:=by
 intro l II Ix _ _ hy H0 Dr σf w hle Ak hs;obtain ⟨a,c,rfl⟩:=RS.shape hr;have BH:cellAt H0 b 1=some (.slice a (s.cu.map Lim.c).length c):=cellAt.mono (by rw [hb.cell];rfl) hle;have hlen:=bh.len;refine Cl.o func242 ntmps242 ag2 ?_;refine .ae (.z (zfa bS) (.y hs (zld ft) (.q hs (J8 (hr.mono hle) rfl aW) (.zn zm (.for (N:=(s.cu.map Lim.c).length) (J:=fun k fr w=>fr=[(6,.slice a (s.cu.map Lim.c).length c),(0,.func (.yield l) #[] #[])]∧∃H1 σb,HLe H H1∧HLe H0 H1∧II k H1 σb∧St H1 w (σb++σf)) (by simp;omega) ?_ ?_ ?_)))))
 ·exact .mk ⟨rfl,H0,Dr,hle,HLe.refl _,Ak,hs⟩
 ·rintro k fr w hk ⟨rfl,H1,σb,aq,eZ,hI,hs⟩;obtain ⟨x,hx⟩:=nth (l:=s.cu) (by simpa using hk);obtain ⟨hA,hB,_⟩:=bh.arc (List.mem_of_getElem? hx) k;refine .block (.ae (.z zm (.ixX hs (hr.mono aq) rfl rfl aW bU hx rfl ?_)));intro EJ o11 ta;refine .q hs (bD (vs:=x.c) rfl mw bU ta) (.o (.alloc hs gZ rfl fun b4 w hs=>?_));refine .z zg (.o (.aD (vs:=x.c) hs rfl rfl bU fun w hs=>?_));refine .nil (.ae (.z zm (.z (zfa eo) (.y hs (zld ai) (.z (zfa eR) (.y hs (zld ai) (.z (zfa gI) (.y hs (zld ai) (.z zm (.z (zbd [_,_,_,_] sr) ?_))))))))));have rG:k<(s.da.map fun x=>[Value.agg x.v.toArray]).length:=by simp [cN.da,eU];simpa using hk
  have QR:(s.da.map fun x=>[Value.agg x.v.toArray])[k]=[.agg (x.arc k).v.toArray]:=by
   have:=mF hx;rw [List.getElem_map];rw [List.getElem?_eq_some_iff] at this;obtain ⟨h1,h2⟩:=this;simp only [cN.da];rw [h2]
  have xx:=hy k rG H1 σb σf w aq hI hs.tail;rw [QR] at xx;refine .o (.yield (vs:=[.agg (x.arc k).v.toArray]) rfl (by simp [Arc.v,hA,hB];rfl) xx ?_);rintro v22 w ⟨H2,σ2,g1,hs,g3⟩;obtain ⟨bb,rfl,gT,gF⟩:=oH g3;refine .zn im (.cond rfl (fun qx=>?_) (fun qx=>?_))
  ·exact .ret (rB (rT (rB (Fin.Qu results242 ⟨H2,σ2,eZ.trans g1,hs,.inr (gF (by simpa using qx))⟩))))
  ·exact .skip (nB (nT (.mk ⟨rfl,H2,σ2,aq.trans g1,eZ.trans g1,gT (by simpa using qx),hs⟩)))
 ·rintro fr w ⟨rfl,H1,σb,aq,eZ,hI,hs⟩;exact Fin.yg results242 ⟨H1,σb,eZ,hs,.inl (by simpa [cN.da,eU] using hI)⟩
theorem mg{w:World}{v:Value}{s:cN}(hs:St H w σ)(bh:s.Ok)(hr:RSy H v s):
  aaA 209 [v] w fun v w'=>∃H1 b,HLe H H1∧v= .func (.func 242) #[] #[Pt b]∧ItA Tryz.prog 242 [Pt b] H1 s.da∧St H1 w' σ:=by
 obtain ⟨u,rfl,hr⟩:=hr;refine Cl.o func209 ntmps209 ag1 ?_;refine .ae (.bx hs fun b1 w hs=>?_);refine .zn zg (.ae (.q hs (cV (f:=[]) (c:=[_]) rfl rfl) (.zn zg (.ret (Fin.bp results209 rfl ?_)))));obtain ⟨H1,g1,g2,hs⟩:=hs.bQ .here;exact ⟨H1,b1,g1,rfl,uC bh g2 (hr.mono g1),hs⟩
theorem kP{w:World}{N gf:Nat}{ar:List Arc}(hs:St H w σ)(hN:N≤64)(bh:pF ar (N+1))(oG:ItA Tryz.prog gf cap H ar)(hc:∀args w,(callFunc gf args).run Tryz.prog w= .ok (.enter gf args) w):
  aaA 208 [I N,.func (.func gf) #[] cap.toArray] w fun v w'=>∃H1 bc bb s ov vo,HLe H H1∧v= .tuple #[.slice (some ⟨bc,0,none⟩) (N+1) (N+1),.slice (some ⟨bb,0,none⟩) (N+1) (N+1),vo]∧OvR H1 vo ov∧UN (N+1) ar s ov∧St H1 w' (.blk bc (Is s.cost):: .blk bb (kT s.by_)::σ):=by
 refine Cl.o func208 ntmps208 ag2 ?_;refine .ae (.o (.alloc hs gY rfl fun b4 w hs=>?_));refine .o (.alloc hs zeroValue296 rfl fun b5 w hs=>?_);refine .o (.alloc hs zeroValue297 rfl fun b6 w hs=>?_);refine .nil (.cut (fun fs w=>∃bc bb,np fs ⟨70,[],[(1,.func (.func gf) #[] cap.toArray),(0,I N),(4,Pt b4),(5,Pt b5),(6,Pt b6)]⟩∧St H w (.blk b4 [.slice (some ⟨bc,0,none⟩) (N+1) (N+1)]:: .blk b5 [.slice (some ⟨bb,0,none⟩) (N+1) (N+1)]:: .blk b6 [.pointer none]:: .blk bc (Is (List.replicate (N+1) 0)):: .blk bb (kT (FH (N+1) 0))::σ)) ?_ ?_)
 ·refine .draw mix rfl hs fun w hs=>?_
  refine .zw 0 rfl zm ?_;refine .z 1 rfl cz ?_;refine .z 3 rfl zm ?_;refine .z 4 rfl cz ?_;refine .e2 (i:=2) (j:=5) au rfl rfl rfl rfl .none .none hs ?_ ?_
  ·refine .DS (N+1) hs rfl rfl af uP rfl ak du aj ?_;intro EJ w hs;refine .go (.e2 (i:=5) (j:=6) au rfl rfl rfl rfl .none .none hs ?_ ?_)
   ·refine .Nt (N+1) hs rfl rfl aC Y6 rfl aR gX aj ?_;intro tt w hs;refine .go (.E 6 hs ?_);refine .store hs rfl rfl aJ ?_;intro w hs;refine .go (.E 7 hs ?_);refine .store hs rfl rfl UU ?_;intro w hs;exact .go (.D hs (nT ⟨EJ,tt,bk,hs.sb⟩))
   ·refine .store hs rfl rfl aJ ?_;intro w hs;refine .go (.E 5 hs ?_);refine .Nt (N+1) hs rfl rfl aC Y6 rfl aR gX aj ?_;intro tt w hs;refine .go (.E 7 hs ?_);refine .store hs rfl rfl UU ?_;intro w hs;exact .go (.D hs (nT ⟨EJ,tt,bk,hs.sb⟩))
  ·refine .Nt (N+1) hs rfl rfl aC Y6 rfl aR gX aj ?_;intro tt w hs;refine .go (.E 2 hs ?_);refine .DS (N+1) hs rfl rfl af uP rfl ak du aj ?_;intro EJ w hs;refine .go (.E 6 hs ?_);refine .store hs rfl rfl aJ ?_;intro w hs;refine .go (.E 7 hs ?_);refine .store hs rfl rfl UU ?_;intro w hs;exact .go (.D hs (nT ⟨EJ,tt,bk,hs.sb⟩))
 ·rintro s w ⟨bc,bb,i7,hs⟩;refine WE.sub ?_ i7;refine .seq (.ae (.y hs (zld mv) (.z (cJ aC) (.zn zm (.for (N:=N+1) (J:=fun k fr w=>fr=[(1,.func (.func gf) #[] cap.toArray),(0,I N),(4,Pt b4),(5,Pt b5),(6,Pt b6)]∧St H w (.blk b4 [.slice (some ⟨bc,0,none⟩) (N+1) (N+1)]:: .blk b5 [.slice (some ⟨bb,0,none⟩) (N+1) (N+1)]:: .blk b6 [.pointer none]:: .blk bc (Is (List.replicate (N+1) 0)):: .blk bb (kT (FH (N+1) k))::σ)) aj ?_ ?_ ?_)))))
  ·exact .mk ⟨rfl,hs⟩
  ·rintro k fr w hk ⟨rfl,hs⟩;have rF:k<(FH (N+1) k).length:=by rw [FG aj];exact hk
   refine .block (.ae (.z zm (.zn zg (.region (.y hs (zld mv) (.z zm ?_))))));first|(refine .ixw hs aC aR ?_;intro RM o22 jv)|refine .z (yp aC aR) ?_
   refine .z (zfa dR) (.o (.store hs rfl rfl ak ?_ dr (Ht rF aj) ((EW rF _).trans (congrArg kT (Nr hk)))));intro w hs;exact .nil (nB (nT (.mk ⟨rfl,hs⟩)))
  ·rintro fr w ⟨rfl,hs⟩;refine nT (.seq (.ae (.z zm (.z cz (.zn zm (.forD (N:=N+2) (J:=fun r ds fr w=>fr=[(1,.func (.func gf) #[] cap.toArray),(0,I N),(4,Pt b4),(5,Pt b5),(6,Pt b6)]∧∃Ds H1 s vo,ds=marks Ds∧HLe H H1∧Ao (N+1) ar r 0 none s∧(r=0∨∃x,OvR H1 vo (some x)∧Ao (N+1) ar (r - 1) ar.length (some x) s)∧St H1 w (.blk b4 [.slice (some ⟨bc,0,none⟩) (N+1) (N+1)]:: .blk b5 [.slice (some ⟨bb,0,none⟩) (N+1) (N+1)]:: .blk b6 [vo]:: .blk bc (Is s.cost):: .blk bb (kT s.by_)::(mes Ds++σ))) aj ?_ ?_ ?_))))))
   ·exact .mk (ds:=[]) ⟨rfl,[],H,⟨List.replicate (N+1) 0,List.replicate (N+1) ⟨0,0,0,-1⟩⟩,_,rfl,HLe.refl _,Ao.init aj,.inl rfl,by rw [Km] at hs;exact hs⟩
   ·rintro r ds fr w hr ⟨rfl,Ds,H1,s,vo,rfl,aq,Z9,-,hs⟩;refine .block (.ae (.o (.store hs rfl rfl sizeOf297 fun w hs=>?_)));refine .nil (.seq (.ae (.zn zm (.block ?_))));refine .rangeFunc (gf:=gf) (cap:=cap) (xs:=ar.map fun x=>[.agg x.v.toArray]) (σb:=[.blk b4 [.slice (some ⟨bc,0,none⟩) (N+1) (N+1)],.blk b5 [.slice (some ⟨bb,0,none⟩) (N+1) (N+1)],.blk b6 [.pointer none],.blk bc (Is s.cost),.blk bb (kT s.by_)]) (σf:=mes Ds++σ) hs trivial rfl (oG.mono aq) hc br rfl
     (I:=fun k H' σb=>∃s ov vo,σb=[.blk b4 [.slice (some ⟨bc,0,none⟩) (N+1) (N+1)],.blk b5 [.slice (some ⟨bb,0,none⟩) (N+1) (N+1)],.blk b6 [vo],.blk bc (Is s.cost),.blk bb (kT s.by_)]∧OvR H' vo ov∧Ao (N+1) ar r k ov s) (Ix:=fun _ _ _=>False) (by rintro k _ _ σ g1 ⟨s,ov,vo,g2,g3,g4⟩;exact ⟨s,ov,vo,g2,g3.mono g1,g4⟩) (fun _ _ _ _ _ h=>h)
     ⟨s,none,_,rfl,rfl,Z9⟩ ?_ ?_ (fun D c H' σb w _ h _=>h.elim)
    ·rintro l k hk H2 wH wG w aO ⟨s,ov,vo,rfl,Iu,hN⟩ hs ⟨rr,GV⟩;obtain ⟨x,hx⟩:=nth (l:=ar) (by simpa using hk);obtain ⟨c1,c2,c3,c4,c5,c6⟩:=bh.2 x (List.mem_of_getElem? hx);have QR:(ar.map fun x=>[Value.agg x.v.toArray])[k]=[.agg x.v.toArray]:=by rw [List.getElem_map];rw [List.getElem?_eq_some_iff] at hx;obtain ⟨h1,h2⟩:=hx;rw [h2]
     rw [QR];have rF:k<ar.length:=by simpa using hk
     have En:=bh.1;have Pk:=hN.lc;have Jo:=hN.lb;have lo1:=hN.lo x.f c1;have hi1:=hN.hi x.f c1;refine .region (.o (.alloc hs gX rfl fun b8 w hs=>?_));refine .o (.aD (vs:=x.v) hs rfl rfl aR fun w hs=>?_);refine .nil (nT ⟨H2,[.blk b8 x.v,.blk b4 [.slice (some ⟨bc,0,none⟩) (N+1) (N+1)],.blk b5 [.slice (some ⟨bb,0,none⟩) (N+1) (N+1)],.blk b6 [vo],.blk bc (Is s.cost),.blk bb (kT s.by_)],HLe.refl _,hs,?_⟩);rintro w wG - hs;refine .block (.seq (.draw mix rfl hs fun w hs=>?_));refine .y 0 rfl hs an ?_;refine .z 1 rfl (zfa cZ) ?_;refine .y 2 rfl hs ai ?_;first|(refine .ixv 3 rfl hs af ak ?_;intro RK o34 ma)|refine .z 3 rfl (zix af ak) ?_
     refine .y 4 rfl hs ai ?_;refine .z 5 rfl (zfa fL) ?_;refine .y 6 rfl hs ai ?_;refine .z 7 rfl cz ?_;refine .y 8 rfl hs an ?_;refine .z 9 rfl (zfa df) ?_;refine .y 10 rfl hs ai ?_;first|(refine .ixv 11 rfl hs af ak ?_;intro VK o42 IJ)|refine .z 11 rfl (zix af ak) ?_
     refine .y 12 rfl hs ai ?_;refine .z 13 rfl jt ?_;refine .D hs ?_;refine (.bX rfl (fun AU=>?_) (fun AU=>?_))
     ·refine .seq (.draw mix rfl hs fun w hs=>?_);refine .y 0 rfl hs an ?_;refine .z 1 rfl (zfa df) ?_;refine .y 2 rfl hs ai ?_;refine .y 3 rfl hs mv ?_;refine .z 4 rfl (zfa df) ?_;refine .y 5 rfl hs ai ?_;refine .y 6 rfl hs an ?_;refine .z 7 rfl (zfa cZ) ?_;refine .y 8 rfl hs ai ?_;first|(refine .ixv 9 rfl hs af ak ?_;intro b54 o54 N2)|refine .z 9 rfl (zix af ak) ?_
      refine .y 10 rfl hs ai ?_;refine .z 11 rfl (zfa fL) ?_;refine .y 12 rfl hs ai ?_;refine .z 13 rfl cz ?_;refine .AJ (i:=14) (vs:=x.v) hs rfl au .none rfl pY aR ?_;first|(refine .ixv 15 rfl hs af ak ?_;intro b60 o60 hc60)|refine .z 15 rfl (zix af ak) ?_
      refine .E 16 hs ?_;refine .store hs rfl rfl ak ?_;intro w hs;refine .go ?_;first|(refine .ixw 17 rfl hs aC aR ?_;intro b61 o61 F1)|refine .z 17 rfl (yp aC aR) ?_
      refine .E 18 hs ?_;refine .aD (vs:=x.v) hs rfl rfl aR ?_;intro w hs;refine .go (.D hs (.region (.o (.store hs rfl rfl sizeOf297 fun w hs=>?_))));refine .nil (nB ?_);obtain ⟨H3,g1,g2,hs⟩:=hs.bQ .here;exact ⟨H3,_,g1,hs,s.rlx x,some x,_,rfl,⟨b8,rfl,g2⟩,hN.DI bh hx AU⟩
     ·exact .skip (nB ⟨H2,_,HLe.refl _,hs.tail,s,ov,vo,rfl,Iu,hN.skip bh hx (by unfold BS.can;omega)⟩)
    ·rintro D H2 wH w aO ⟨s,ov,vo,rfl,Iu,hN⟩ hs;obtain ⟨a',rfl,PC⟩:=Iu.ptr;replace hs:St H2 w (.blk b4 [.slice (some ⟨bc,0,none⟩) (N+1) (N+1)]:: .blk b5 [.slice (some ⟨bb,0,none⟩) (N+1) (N+1)]:: .blk b6 [.pointer a']:: .blk bc (Is s.cost):: .blk bb (kT s.by_)::(mes (D::Ds)++σ)):=St.deep (σ1:=[_,_,_,_,_]) hs;have hN:Ao (N+1) ar r ar.length ov s:=by simpa using hN
     refine nB (nT (.ae (.y hs (zld isAgg297) (.q hs (DM rfl rfl runUnderlying297) (.nil (.cond rfl (fun uo=>?_) (fun uo=>?_)))))))
     ·refine .seq (.draw mix rfl hs fun w hs=>?_);refine .y 0 rfl hs an ?_;refine .y 1 rfl hs mv ?_;refine .E 2 hs ?_;refine .store hs rfl rfl aJ ?_;intro w hs;refine .go (.E 3 hs ?_);refine .store hs rfl rfl UU ?_;intro w hs;refine .go (.E 4 hs ?_);refine .store hs rfl rfl sizeOf297 ?_;intro w hs;refine .go (.D hs (.ret (rB (rT (rB (rT (?_)))))));obtain ⟨rfl,rfl⟩:=OvR.no PC uo;refine Fin.iz (D::Ds) [_,_,_,_,_] hs fun w hs=>⟨_,results3 results208 (Ig hs rfl an) (Ig hs rfl mv) (Ig hs rfl isAgg297),H2,bc,bb,s,none,_,aq.trans aO,rfl,Iu,⟨r,hN,fun h=>(h rfl).elim⟩,hs.sb⟩
     ·refine .skip (nB (nT ?_));obtain ⟨x,rfl⟩:=OvR.yes PC uo;exact .mk (ds:=marks (D::Ds)) ⟨rfl,D::Ds,H2,s,_,rfl,aq.trans aO,hN.next bh,.inr ⟨x,Iu,hN⟩,hs⟩
   ·rintro ds fr w ⟨rfl,Ds,H1,s,vo,rfl,aq,Z9,hor,hs⟩;obtain ⟨x,Iu,hN⟩:∃x,OvR H1 vo (some x)∧Ao (N+1) ar (N+2 - 1) ar.length (some x) s:=hor.resolve_left aj;obtain ⟨b3,rfl,qu⟩:=Iu;refine nT (.seq (.draw mix rfl hs fun w hs=>?_));refine .y 0 rfl hs an ?_;refine .y 1 rfl hs mv ?_;refine .y 2 rfl hs isAgg297 ?_;refine .E 3 hs ?_;refine .store hs rfl rfl aJ ?_;intro w hs;refine .go (.E 4 hs ?_);refine .store hs rfl rfl UU ?_;intro w hs;refine .go (.E 5 hs ?_);refine .store hs rfl rfl sizeOf297 ?_;intro w hs;refine .go (.D hs (.ret (Fin.iz Ds [_,_,_,_,_] hs fun w hs=>⟨_,results3 results208 (Ig hs rfl an) (Ig hs rfl mv) (Ig hs rfl isAgg297),H1,bc,bb,s,some x,_,aq,rfl,⟨b3,rfl,qu⟩,⟨N+1,hN,fun _=>rfl⟩,hs.sb⟩)))
theorem kQ{w:World}{v:Value}{s:cN}(hs:St H w σ)(bh:s.Ok)(hr:RSy H v s):
  aaA 139 [v] w fun v w'=>∃H1 b,HLe H H1∧v= .bool b∧(b=true↔s.Sound)∧St H1 w' σ:=by
 obtain ⟨u,rfl,hr⟩:=hr;obtain ⟨N,hN⟩:=Int.eq_ofNat_of_zero_le bh.m0;have VC:=bh.m1;have hn:s.n=N+1:=by simp [cN.n,hN]
 have oO:=bh.da;rw [hn] at oO;rw [hN];refine Cl.o func139 ntmps139 ag1 ?_;refine .ae (.bx hs fun b1 w hs=>?_);refine .zn zg (.seq (.draw mix rfl hs fun w hs=>?_));refine .zw 0 rfl (zfa bT) ?_;refine .y 1 rfl hs ai ?_;refine .ys 2 rfl hs [_,_] bZ aZ ?_;refine .E 3 hs ?_;refine .call call209 rfl (mg (s:=s) hs bh ⟨u,by rw [hN],hr⟩) ?_;rintro _ w ⟨H1,jx,aq,rfl,oG,hs⟩;refine .go (.E 4 hs ?_);refine .call call208 rfl (kP hs aj oO oG call242) ?_;rintro _ w ⟨H2,bc,bb,st,ov,vo,aO,rfl,Iu,Sa,hs⟩;obtain ⟨a',rfl,PC⟩:=Iu.ptr;refine .go (.zw 5 rfl zm ?_);refine .z 6 rfl zex ?_;refine .z 7 rfl zex ?_;refine .z 8 rfl zex ?_;refine .z 9 rfl zg ?_;refine .z 10 rfl zg ?_;refine .z 11 rfl zg ?_;refine .D hs ?_;refine .ae (.z zm (.q hs (DM rfl rfl runUnderlying297) (.zn zg (.ret (Fin.bp results139 rfl ⟨H2,_,aq.trans aO,rfl,?_,hs.out⟩)))));obtain ⟨r,Mj,Cw⟩:=Sa
 cases ov with
 |none=>
  rw [PC];exact ⟨fun _=>⟨_,(Mj.sol oO aj).1⟩,fun _=>rfl⟩
 |some x=>
  rw [PC];exact ⟨fun h=>(by cases h),fun h=>(Mj.none oO aj (by have:=Cw br;omega) h).elim⟩
theorem sU{w:World}{c:Int}(hs:St H w σ)(hc:0≤c∧c<4294967296):aaA 291 [.int .u64 1,.int .u64 c] w fun v w'=>v= .tuple #[.int .u64 0,.int .u64 c]∧St H w' σ:=by
 refine Cl.o func291 ntmps291 ag2 ?_;refine .ae (.z zg (.zn zg (.ae (.z zm ?_))));first|refine .q hs (QC rfl rfl ⟨aj,aj⟩) ?_|refine .q hs (GI rfl rfl) ?_
 refine .zn zg (.ae (.z zm ?_));first|refine .q hs (DL rfl rfl ⟨aj,aj⟩) ?_|refine .q hs (Fx rfl rfl e9) ?_
 refine .zn zg (.ae (.z zm ?_));first|refine .q hs (QC rfl rfl ⟨aj,aj⟩) ?_|refine .q hs (GI rfl rfl) ?_
 refine .zn zg (.ae (.z zm ?_));first|refine .q hs (DL rfl rfl ⟨aj,aj⟩) ?_|refine .q hs (Fx rfl rfl e9) ?_
 refine .zn zg (.ae (.z zm (.z zm (.z nf (.zn zg (.ae (.z zm (.z zm (.z nf (.z zm ?_))))))))));first|refine .q hs (DL rfl rfl ⟨aj,aj⟩) ?_|refine .q hs (Fx rfl rfl e9) ?_
 refine .z cz (.zn zg (.ae (.z zm ?_)));first|refine .q hs (QC rfl rfl ⟨aj,aj⟩) ?_|refine .q hs (GI rfl rfl) ?_
 refine .zn zg (.ae (.z zm ?_));first|refine .q hs (DL rfl rfl ⟨aj,aj⟩) ?_|refine .q hs (Fx rfl rfl e9) ?_
 refine .zn zg (.ae (.z zm (.z zm (.z zm (.z nf (.z cz (.zn zg (.ae (.z zm (.z zm (.z nf (.z zm (.z cz (.z zm ?_))))))))))))));first|refine .q hs (DL rfl rfl ⟨aj,aj⟩) ?_|refine .q hs (Fx rfl rfl e9) ?_
 exact .z cz (.zn zg (.ae (.z zm (.z zm (.z nf (.zn zg (.ret (Fin.mi results291 rfl rfl ⟨br,hs⟩))))))))
theorem vM{w:World}{c:Int}(hs:St H w σ)(hc:0≤c∧c<4294967296):aaA 277 [.int .u64 1,.int .u64 c] w fun v w'=>v= .tuple #[.int .u64 0,.int .u64 c]∧St H w' σ:=by
 refine Cl.o func277 ntmps277 ag2 ?_;refine .ae (.z zg (.zn zg (.seq (.cF (.skip (nT (.ae (.z zm (.z zm (.o (.call call291 rfl (sU hs hc) ?_)))))))))));rintro _ w ⟨rfl,hs⟩;exact .z zm (.z zex (.z zex (.z zg (.zn zg (.ae (.z zm (.z zm (.z zg (.zn zg (.ret (Fin.mi results277 rfl rfl ⟨rfl,hs⟩)))))))))))
theorem Lz{c:Nat}{z:Int}:let n:=min k (c - k);(List.replicate k z++List.replicate (c - k) 0).take k++List.replicate n z++(List.replicate k z++List.replicate (c - k) 0).drop (k+n)=List.replicate (k+n) z++List.replicate (c - (k+n)) (0:Int):=by
 intro n;have hn:n≤c - k:=Nat.min_le_right _ _;have e0:(List.replicate k z).length=k:=by simp
 rw [List.take_left' e0];have e1:(List.replicate k z++List.replicate (c - k) 0).drop (k+n)=List.replicate (c - (k+n)) (0:Int):=by
  rw [show k+n=(List.replicate k z).length+n by simp,List.drop_append];simp;omega
 rw [e1,List.replicate_append_replicate]
theorem vz{w:World}{z:Int}{bx c:Nat}(hs:St H w σ)(hm:Mem σ (.blk bx (Is [z])))(h1:1≤c)(h2:c≤1000000):aaA 243 [.slice (some ⟨bx,0,none⟩) 1 1,I c] w fun v w'=>∃b,v= .slice (some ⟨b,0,none⟩) c c∧St H w' (.blk b (Is (List.replicate c z))::σ):=by
 refine Cl.o func243 ntmps243 ag2 ?_;refine .ae (.zn zg (.seq (.ae (.z zm (.zn jt (.bX rfl (fun pR=>?_) (fun pR=>?_)))))))
 ·omega
 ·refine .skip (nT (.ae (.z zm (.z (cJ af) ?_))));first|refine .q hs (yV rfl aF dG ⟨aj,aj⟩) ?_|refine .q hs (yU rfl aF dG ⟨aj,aj⟩) ?_|refine .q hs (DN rfl aF dG) ?_
  refine .z zm ?_;first|refine .q hs (yV rfl aF dG ⟨aj,aj⟩) ?_|refine .q hs (yU rfl aF dG ⟨aj,aj⟩) ?_|refine .q hs (DN rfl aF dG) ?_
  refine .o (.call call277 rfl (vM (c:=c) hs aj) ?_);rintro _ w ⟨rfl,hs⟩;refine .z zm (.z zex (.z zex (.z zg (.zn zg (.seq (.ae (.z zm (.z q5 (.z zm (.mW (t':=23) rfl (fun zH=>?_) (fun zH=>?_)))))))))))
  ·refine .Fs 2 2 false (.zn zpT (.cT ?_));first|omega|(simp at jC;omega)
  ·refine .T (.z zm (.T (.z q5 (.zn zpF (.bX rfl (fun jC=>?_) (fun jC=>?_))))))
   ·first|omega|(simp at jC;omega)
   ·refine .skip (nT (.ae (.z zm ?_)));first|refine .q hs (yV rfl dG aF ⟨aj,aj⟩) ?_|refine .q hs (yU rfl dG aF ⟨aj,aj⟩) ?_|refine .q hs (DN rfl dG aF) ?_
    refine .o (.DS c hs rfl rfl af uP rfl ak du aj fun LV w hs=>?_);refine .zn zg (.ae (.z zm (.z zm (.o (.UB (k:=1) (xs:=List.replicate c 0) (zs:=[z]) hs rfl rfl ⟨_,_,rfl⟩ af ak aj rfl (Ey (xs:=[z]) (.there hm) rfl rfl) (by simp;omega) ?_)))));intro w hs;refine .zn zg (.seq (.block ?_));refine .loop (fun k:Nat=>⟨48,[],[(8,I k),(7,.slice (some ⟨LV,0,none⟩) c c)]⟩) (fun k w=>(1≤k∧k≤c)∧St H w (.blk LV (Is (List.replicate k z++List.replicate (c - k) 0))::σ)) (fun k=>c - k) 1 bk ⟨⟨aj,aj⟩,by
      have e:List.take 0 (List.replicate c (0:Int))++[z]++List.drop (0+1) (List.replicate c 0)=List.replicate 1 z++List.replicate (c - 1) 0:=by simp
      rw [e] at hs;exact hs⟩ ?_
    rintro k w ⟨⟨k1,k2⟩,hs⟩;refine .seq (.ae (.z zm (.z zm (.z (cJ af) (.zn jt (.bX rfl (fun wb=>?_) (fun wb=>?_)))))))
    ·refine .skip (nT (.block (.draw mix rfl hs fun w hs=>?_)));refine .zw 0 rfl zm ?_;refine .z 1 rfl zm ?_;refine .z 2 rfl zm ?_;refine .zw 3 rfl (DJ (k:=k) rfl rfl af ak aj aj) (.zw 4 rfl zm ?_);refine .z 5 rfl zm ?_;refine .zw 6 rfl (yS (k:=k) rfl rfl af ak aj) (.E 7 hs ?_);refine .UB (k:=min k (c - k)) (xs:=List.replicate k z++List.replicate (c - k) 0) (zs:=List.replicate (min k (c - k)) z) hs rfl rfl ⟨_,_,rfl⟩ af ak rfl br (Ey (xs:=List.replicate k z++List.replicate (c - k) 0) .here (by rw [List.drop_zero,List.take_append_of_le_length (by simp;omega)];simp) br) (by simp;omega) ?_;intro w hs;refine .go (.zw 8 rfl cz ?_);refine .z 9 rfl zg ?_;refine .D hs ?_;refine nB (nT ?_);exact ⟨k+min k (c - k),bk,⟨⟨aj,aj⟩,by
       have e:=Lz (z:=z) (c:=c) (k:=k);simp only [Nat.mul_one,Nat.zero_add] at hs;rw [e] at hs;exact hs⟩,aj⟩
    ·refine .exit (xT (xT (xB (nT (.ae (.z zm (.zn zg (.ret (Fin.bp results243 rfl ?_)))))))));obtain rfl:k=c:=by omega
     exact ⟨LV,rfl,by simpa using hs⟩
theorem vA{w:World}{v:Value}(hs:St H w σ)(hr:RI H v xs)(hx:xs.length≤17592186044416):aaA 210 [v] w fun u w'=>∃en,(Tc v=true→Tc u=true)∧bM 1 u (Is xs) en∧St H w' (en::σ):=by
 obtain ⟨a,c,rfl⟩:=RI.shape hr;have hl:=(RI.len hr).2.2;refine Cl.o func210 ntmps210 ag1 ?_;refine .ae (.zn zg (.seq (.ae (.z zm (.q hs (Kb rfl rfl af) (.nil (.cond rfl (fun Pr=>?_) (fun Pr=>?_))))))))
 ·refine .ae (.zn zg (.ret (rT (Fin.bp results210 rfl ?_))));obtain rfl:a=none:=by simpa using Pr
  obtain rfl:=hr.Kh;exact ⟨.nul,fun h=>h,.nil 1 none,hs.nul⟩
 ·refine .skip (nT (.ae (.o (.buildSlice (cells:=[]) hs w5 rfl rfl fun b5 w hs=>?_))));refine .z zm (.o (.LX (xs:=[]) (ys:=Is xs) hs bO rfl rfl (.full rfl) (.ints hr) (by simp [Value.oneCell']) (fun l h=>by simp at h;omega) ?_));intro v7 en7 w KR hO hs;exact .zn zg (.ret (Fin.bp results210 rfl ⟨en7,fun _=>KR rfl,hO,hs⟩))
theorem jQ{w:World}{v:Value}(hs:St H w σ)(hr:RI H v xs)(hx:xs.length≤17592186044416):aaA 210 [v] w fun v w'=>∃en,bM 1 v (Is xs) en∧St H w' (en::σ):=
 (vA hs hr hx).mono fun _ _ ⟨en,_,h⟩=>⟨en,h⟩
theorem sH{w:World}{v:Value}{l:List Arc}(hs:St H w (en::σ))(ho:bM 4 v (kT l) en)(hl:l.length≤1000000):
  aaA 244 [v] w fun _ w'=>∃iY,bM 4 v (kT l.reverse) iY∧St H w' (iY::σ):=by
 rcases ho with ⟨a,rfl,h2,rfl⟩|⟨b,len,cap,sp,rfl,rfl,h2,h3,h4⟩
 ·obtain rfl:l=[]:=by
   have:=congrArg List.length h2;rw [dK] at this;exact List.length_eq_zero_iff.1 (by simp at this;omega)
  have hs:=hs.tail;refine Cl.o func244 ntmps244 ag1 ?_;refine .ae (.z zm (.z (cJ aC) (.z iw (.z zg (.zn zg (.block (.loop (fun _:Unit=>⟨28,[],[(2,I 0),(3,I (-1))]⟩) (fun _ w=>St H w σ) (fun _=>0) () bk hs ?_)))))));rintro _ w hs;refine .seq (.ae (.z zm (.z zm (.zn jt (.bX rfl (fun nP=>?_) (fun nP=>?_))))))
  ·omega
  ·exact .exit (xT (xT (xB (Fin.yg results244 ⟨.nul,.nil 4 a,hs.nul⟩))))
 obtain rfl:len=l.length:=by rw [dK] at h2;omega
 refine Cl.o func244 ntmps244 ag1 ?_;refine .ae (.z zm (.z (cJ aC) (.z iw (.z zg (.zn zg (.block (.loop (fun p:Nat×List Arc=>⟨28,[],[(2,I p.1),(3,I ((l.length:Int) - 1 - p.1)),(0,.slice (some ⟨b,0,none⟩) l.length cap)]⟩) (fun p w=>(2*p.1≤l.length+1∧w8 l p.2 p.1)∧St H w (.blk b (kT p.2++sp)::σ)) (fun p=>l.length - p.1) (0,l) (.cons rfl (.dP rfl br (.cons rfl (.nil rfl rfl)))) ⟨⟨br,.start l⟩,hs⟩ ?_)))))));rintro ⟨i,L⟩ w ⟨⟨h5,h6⟩,hs⟩;dsimp only at h5 h6 hs ⊢;have hL:=h6.1;refine .seq (.ae (.z zm (.z zm (.zn jt (.bX rfl (fun nP=>?_) (fun nP=>?_))))))
 ·refine .skip (nT (.seq (.block (.draw mix rfl hs fun w hs=>?_))));refine .zw 0 rfl zm ?_;refine .z 1 rfl zm ?_;refine .z 2 rfl zm ?_;refine .z 3 rfl zm ?_;refine .z 4 rfl zm ?_;refine .z 5 rfl zm ?_;refine .zw 6 rfl (Bu (k:=l.length - 1 - i) rfl rfl aC aR aj aj) (.AJ (i:=7) (vs:=(ga L (l.length - 1 - i)).v) hs rfl au .none rfl pY aR ?_ (hv:=Ac aj sp));refine .zw 8 rfl zm ?_;refine .z 9 rfl zm ?_;first|(refine .ixw 10 rfl hs aC aR ?_;intro Hv o24 rI)|refine .z 10 rfl (yp aC aR) ?_
  refine .AJ (i:=11) (vs:=(ga L i).v) hs rfl au .none rfl pY aR ?_ (hv:=Ac aj sp);first|(refine .ixw 12 rfl hs aC aR ?_;intro VP o26 jC)|refine .z 12 rfl (yp aC aR) ?_
  refine .E 13 hs ?_;refine .aD (vs:=(ga L (l.length - 1 - i)).v) hs rfl rfl aR ?_ dr (zW aj sp) (wL aj _ sp);intro w hs;refine .go (.zw 14 rfl (Bu (k:=l.length - 1 - i) rfl rfl aC aR aj aj) (.E 15 hs ?_));refine .aD (vs:=(ga L i).v) hs rfl rfl aR ?_ dr (zW (by simp;omega) sp) (wL (by simp;omega) _ sp);intro w hs;exact .go (.D hs (nB (nT (.region (.z zm (.z cz (.z zm (.z iw (.z zg (.zn zg (nT ⟨(i+1,_),.cons rfl (.dP rfl (by push_cast;omega) (.cons rfl (.nil rfl rfl))),⟨⟨by dsimp only;omega,h6.step aj⟩,hs⟩,by dsimp only;omega⟩)))))))))))
 ·refine .exit (xT (xT (xB ?_)));rw [h6.done aj] at hs;exact Fin.yg results244 ⟨_,.inr ⟨b,l.length,cap,sp,rfl,rfl,by rw [dK];simp,by rw [←h3];simp [dK],h4⟩,hs⟩
theorem pT{s:cN}{ts:List Int}(bh:s.Ok)(hb:Row H b1 [Pt bf])(hF:Aa H bf s ts lf vl bt bl cl sp)(fk:ts.length=s.cu.length):
  ItA Tryz.prog 271 [Pt b1] H (dY s.da ts):=by
 intro l II Ix Ec NO hy H0 Dr σf w hle Ak hs;have Fa:cellAt H0 b1 0=some (Pt bf):=(hb.mono hle).at 0;have VE:=hF.mono hle;have Tq:=VE.f.cells 0 [I s.many,vl];have hlen:s.da.length=ts.length:=by simp [cN.da,eU,fk]
 refine Cl.o func271 ntmps271 ag2 ?_;refine .ae (.bx hs fun b2 w hs=>?_);refine .nil (.ae (.y hs (zld P6) (.z znc (.z (zfa fM) (.q hs (bD (vs:=[I s.many,vl]) rfl bZ aZ Tq) (.o (.call call209 rfl (mg (s:=s) hs bh ⟨vl,rfl,VE.l⟩) ?_)))))));rintro _ w ⟨H1,b8,aq,rfl,oG,hs⟩;refine .nil (.block ?_);refine .rangeFunc (gf:=242) (cap:=[Pt b8]) (xs:=s.da.map fun x:Arc=>[Value.agg x.v.toArray]) (σb:= .blk b2 [.func (.yield l) #[] #[]]::Dr) (σf:=σf) hs trivial rfl oG call242 br rfl
  (I:=fun k H' σb=>∃σo,σb= .blk b2 [.func (.yield l) #[] #[]]::σo∧HLe H0 H'∧II (GK s.da ts k) H' σo)
  (Ix:=fun c H' σb=>c= .ret∧∃σo,σb= .blk b2 [.func (.yield l) #[] #[]]::σo∧HLe H0 H'∧Ix H' σo)
  (fun k _ _ σ g1 ⟨σo,g2,g3,g4⟩=>⟨σo,g2,g3.trans g1,Ec _ _ _ _ g1 g4⟩) (fun c _ _ σ g1 ⟨g0,σo,g2,g3,g4⟩=>⟨g0,σo,g2,g3.trans g1,NO _ _ _ g1 g4⟩)
  ⟨Dr,rfl,aq,by rw [Kf];exact Ec _ _ _ _ aq Ak⟩ ?_ ?_ ?_
 ·rintro l2 k hk H2 wH wG w aO ⟨σo,rfl,eZ,Yu⟩ hs ⟨rr,GV⟩;obtain ⟨x,hx⟩:=nth (l:=s.da) (by simpa using hk);obtain ⟨c1,c2,c3,c4,c5,c6⟩:=bh.da.2 x (List.mem_of_getElem? hx);have QR:(s.da.map fun x=>[Value.agg x.v.toArray])[k]=[.agg x.v.toArray]:=by rw [List.getElem_map];rw [List.getElem?_eq_some_iff] at hx;obtain ⟨h1,h2⟩:=hx;rw [h2]
  rw [QR];have Sd:k<ts.length:=by rw [←hlen];simpa using hk
  have sf:x.l=(k:Int):=uL hx;obtain ⟨r1,r2,r3⟩:=JX (ts:=ts) hx Sd;refine .region (.o (.alloc hs gX rfl fun b3 w hs=>?_));refine .o (.aD (vs:=x.v) hs rfl rfl aR fun w hs=>?_);refine .nil (nT ⟨H2,.blk b3 x.v:: .blk b2 [.func (.yield l) #[] #[]]::σo,HLe.refl _,hs,?_⟩);rintro w wG - hs;refine .block (.seq (.ae (.y hs (zld isAgg331) (.q hs (jA (vs:=x.v) rfl pY aR) ?_))));have xx:=hy (GK s.da ts k) (by simpa using (List.getElem?_eq_some_iff.1 r1).1) H2 σo (.blk b3 x.v:: .blk b2 [.func (.yield l) #[] #[]]::wG) w (hle.trans eZ) Yu (St.deep (σ1:=σo) (St.deep (σ1:= .blk b3 x.v::σo) (hs.perm (.swap _ _ _))));rw [Kq r1] at xx;refine .o (.yield (vs:=[.agg x.v.toArray]) rfl rfl xx ?_);rintro v12 w ⟨H3,σ3,bP,hs,g3⟩;obtain ⟨bb,rfl,gT,gF⟩:=oH g3;replace hs:St H3 w (.blk b3 x.v:: .blk b2 [.func (.yield l) #[] #[]]::(σ3++wG)):=(St.shallow (σ1:= .blk b3 x.v::σ3) (St.shallow (σ1:=σ3) hs)).perm (.swap _ _ _);refine .zn im (.cond rfl (fun iX=>?_) (fun iX=>?_))
  ·exact .ret (rT (rB (⟨H3,.blk b2 [.func (.yield l) #[] #[]]::σ3,bP,hs.tail,rfl,σ3,rfl,eZ.trans bP,gF (by simpa using iX)⟩)))
  ·refine .skip (nT (.seq (.draw mix rfl hs fun w hs=>?_)));have Sj:cellAt H3 b1 0=some (Pt bf):=cellAt.mono Fa (eZ.trans bP);have Vp:cellAt H3 bf 2=some (.slice (some ⟨bt,0,none⟩) ts.length ts.length):=((VE.mono (eZ.trans bP)).f).at 2;have ht3:cellAt H3 bt k=some (I (gi ts k)):=((VE.mono (eZ.trans bP)).t).at k (kB Sd);have Lp:=gT (by simpa using iX);refine .r (i:=0) hs rfl au .none (aP rfl P6 Sj) ?_;refine .zw 1 rfl znc ?_;refine .z 2 rfl (zfa jj) ?_;refine .y 3 rfl hs an ?_;refine .z 4 rfl (zfa dR) ?_;refine .y 5 rfl hs ai ?_;refine .zw 6 rfl (mN (k:=k) rfl rfl af ak sf Sd) (.r (i:=7) hs rfl au .none (aP rfl ai ht3) ?_);refine .zw 8 rfl q5 ?_;refine .z 9 rfl zm ?_;refine .mW (t':=23) rfl (fun zH=>?_) (fun zH=>?_)
   ·refine .zv 10 rfl hs (rE isAgg331) (.zw 11 rfl (zfa df) ?_);refine .y 12 rfl hs ai ?_;refine .z 13 rfl (zfa cZ) ?_;refine .y 14 rfl hs ai ?_;refine .z 15 rfl (zfa fL) ?_;refine .y 16 rfl hs ai ?_;refine .z 17 rfl Md ?_;refine .z 18 rfl (zfa dR) ?_;refine .y 19 rfl hs ai ?_;refine .z 20 rfl (zbd [_,_,_,_] sr) ?_;refine .E 21 hs ?_;obtain ⟨r4,r5⟩:=r2 zH;have xx:=hy (GK s.da ts k+1) (by simpa using (List.getElem?_eq_some_iff.1 r4).1) H3 σ3 (.blk b3 x.v:: .blk b2 [.func (.yield l) #[] #[]]::wG) w (hle.trans (eZ.trans bP)) Lp (St.deep (σ1:=σ3) (St.deep (σ1:= .blk b3 x.v::σ3) (hs.perm (.swap _ _ _))));rw [Kq r4] at xx;refine .yield (vs:=[.agg x.back.v.toArray]) rfl rfl xx ?_;rintro v35 w ⟨H4,σ4,eL,hs,g4⟩;obtain ⟨bb4,rfl,gT4,gF4⟩:=oH g4;replace hs:St H4 w (.blk b3 x.v:: .blk b2 [.func (.yield l) #[] #[]]::(σ4++wG)):=(St.shallow (σ1:= .blk b3 x.v::σ4) (St.shallow (σ1:=σ4) hs)).perm (.swap _ _ _);refine .go (.zw 22 rfl im ?_);refine .z 23 rfl zpT ?_;refine .D hs ?_;refine (.cond rfl (fun wb=>?_) (fun wb=>?_))
    ·exact .ret (rB (⟨H4,.blk b2 [.func (.yield l) #[] #[]]::σ4,bP.trans eL,hs.tail,rfl,σ4,rfl,eZ.trans (bP.trans eL),gF4 (by simpa using wb)⟩))
    ·exact .skip (nB ⟨H4,.blk b2 [.func (.yield l) #[] #[]]::σ4,bP.trans eL,hs.tail,σ4,rfl,eZ.trans (bP.trans eL),by rw [r5];exact gT4 (by simpa using wb)⟩)
   ·refine .F 10 rfl ?_;refine .F 11 rfl (.F 12 rfl (.F 13 rfl (.F 14 rfl (.F 15 rfl (.F 16 rfl (.F 17 rfl (.F 18 rfl (.F 19 rfl (.F 20 rfl (.F 21 rfl (.F 22 rfl (.zw 23 rfl zpF ?_))))))))))));refine .D hs ?_;exact (.cF (.skip (nB ⟨H3,.blk b2 [.func (.yield l) #[] #[]]::σ3,bP,hs.tail,σ3,rfl,eZ.trans bP,by rw [r3 zH];exact Lp⟩)))
 ·rintro D H2 wH w aO ⟨σo,rfl,eZ,Yu⟩ hs;exact nB (Fin.VH [D] [] hs.GD fun w hs=>⟨_,results0 results271,H2,σo,eZ,hs,.inl (by simpa [Nd hlen] using Yu)⟩)
 ·rintro D c H2 wH w aO ⟨rfl,σo,rfl,eZ,hx⟩ hs;exact .ret (rB (Fin.iz [D] [] hs.GD fun w hs=>⟨_,results0 results271,H2,σo,eZ,hs,.inr hx⟩))
theorem mu{w:World}{s:cN}{ts:List Int}(hs:St H w σ)(bh:s.Ok)(hF:Aa H bf s ts lf vl bt bl cl sp)(fk:ts.length=s.cu.length):
  aaA 236 [Pt bf] w fun v w'=>∃H1 b,HLe H H1∧v= .func (.func 271) #[] #[Pt b]∧ItA Tryz.prog 271 [Pt b] H1 (dY s.da ts)∧St H1 w' σ:=by
 refine Cl.o func236 ntmps236 ag1 ?_;refine .ae (.bx hs fun b1 w hs=>?_);refine .zn zg (.ae (.q hs (cV (f:=[]) (c:=[_]) rfl rfl) (.zn zg (.ret (Fin.bp results236 rfl ?_)))));obtain ⟨H1,g1,g2,hs⟩:=hs.bQ .here;exact ⟨H1,b1,g1,rfl,pT bh g2 (hF.mono g1) fk,hs⟩
theorem tj{w:World}{to:Nat}{s:cN}{ts:List Int}(hs:St H w σ)(bh:s.Ok)(hF:Aa H bf s ts lf vl bt bl cl sp)(fk:ts.length=s.cu.length)(Ah:lf.length=s.n)
  (hD:∃p,ja (dY s.da ts) p) (s8:to<s.n) (KQ:0<gi lf to):
  aaA 211 [Pt bf,I to] w fun v w'=>∃H1 p en,HLe H H1∧bM 4 v (kT p) en∧St H1 w' (en::σ)∧YV s.n s.da ts lf p to:=by
 obtain ⟨N,hN⟩:=Int.eq_ofNat_of_zero_le bh.m0;have VC:=bh.m1;have hn:s.n=N+1:=by simp [cN.n,hN]
 have oO:=bh.da;have hlen:s.da.length=ts.length:=by simp [cN.da,eU,fk]
 rw [hn] at oO Ah s8 ⊢;obtain ⟨D,hg⟩:=GG aj aj oO hlen hD;have ZM:cellAt H bf 0=some (I (N:Int)):=by have:=hF.f.at 0 (v:=I s.many);rwa [hN] at this
 have Vp:cellAt H bf 3=some (.slice (some ⟨bl,0,none⟩) lf.length cl):=hF.f.at 3;refine Cl.o func211 ntmps211 ag2 ?_;refine .ae (.bx hs fun b2 w hs=>?_);refine .zn zg (.ae (.o (.buildSlice (cells:=[_]) hs bJ rfl rfl fun jG w hs=>?_)));refine .y hs (zld P6) (.z znc (.z (zfa fM) (.z (zfa bT) (.y hs (zld ai) (.z cz (.o (.call call243 rfl (vz (z:=far) (c:=N+1) hs .here aj aj) ?_)))))));rintro _ w ⟨bc,rfl,hs⟩;refine .o (.alloc hs gY rfl fun b5 w hs=>?_);refine .o (.store hs rfl rfl aJ fun w hs=>?_);refine .nil (.ae (.y hs (zld P6) (.z znc (.z (zfa fM) (.z (zfa bT) (.y hs (zld ai) (.z cz (.o (.Nt (N+1) hs rfl rfl aC Y6 rfl aR gX aj fun BO w hs=>?_)))))))));refine .o (.alloc hs zeroValue296 rfl fun b6 w hs=>?_);refine .o (.store hs rfl rfl UU fun w hs=>?_);refine .nil (.seq (.ae (.y hs (zld P6) (.z znc (.z (zfa dS) (.y hs (zld an) (.z (cJ af) (.zn zm (.for (N:=lf.length) (J:=fun k fr w=>fr=[(31,.slice (some ⟨bl,0,none⟩) lf.length cl),(5,Pt b5),(6,Pt b6),(2,Pt b2),(1,I to)]∧∃st,z7 (N+1) lf k st∧St H w (.blk b6 [.slice (some ⟨BO,0,none⟩) (N+1) (N+1)]:: .blk BO (kT st.by_):: .blk b5 [.slice (some ⟨bc,0,none⟩) (N+1) (N+1)]:: .blk bc (Is st.cost):: .blk b2 [Pt bf]::σ)) aj ?_ ?_ ?_)))))))))
 ·exact .mk ⟨rfl,_,.start _ _,hs.sb⟩
 ·rintro k fr w hk ⟨rfl,st,hI,hs⟩;have Vr:cellAt H bl k=some (I (gi lf k)):=hF.d.at k (L7 (bG hk) sp);have Pk:=hI.lc;have Jo:=hI.lb;have Xi:k<st.by_.length:=by omega
  refine .block (.ae (.z zm ?_));first|(refine .ixv hs af ak ?_;intro VM o36 wc)|refine .z (zix af ak) ?_
  refine .q hs (aP rfl ai Vr) (.z zg (.zn zg (.ae (.z zm (.zn jt (.bX rfl (fun oD=>?_) (fun oD=>?_)))))))
  ·refine .ae (.y hs (zld an) (.z zm ?_));first|(refine .ixv hs af ak ?_;intro VK o42 IJ)|refine .z (zix af ak) ?_
   refine .o (.store hs rfl rfl ak fun w hs=>?_);refine .nil (.region (.y hs (zld mv) (.z zm ?_)));first|(refine .ixw hs aC aR ?_;intro aaw o45 T1)|refine .z (yp aC aR) ?_
   refine .z (zfa dR) (.o (.store hs rfl rfl ak ?_ dr (Ht Xi aj) (EW Xi _)));intro w hs;exact .nil (nB (nT (.mk ⟨rfl,_,hI.take aj oD,hs⟩)))
  ·exact .skip (nB (nT (.mk ⟨rfl,_,hI.skip oD,hs⟩)))
 ·rintro fr w ⟨rfl,st0,Ak,hs⟩;rw [Ah] at Ak;have hW0:=Ak.inv hg;refine nT (.seq (.ae (.o (.alloc hs OI rfl fun b9 w hs=>?_))));refine .o (.store hs rfl rfl fQ fun w hs=>?_);refine .nil (.block ?_);refine .loop (fun p:Nat×List Nat×bB×BS×Bool=>⟨141,marks p.2.1,[(9,.pointer (some ⟨p.1,0,none⟩)),(5,Pt b5),(6,Pt b6),(2,Pt b2),(1,I to)]⟩)
   (fun p w=>HLe H p.2.2.1∧(∃j,yn (N+1) (dY s.da ts) (fun v=>gi lf v<0) D j p.2.2.2.2 p.2.2.2.1∧(p.2.2.2.2=false→j=(dY s.da ts).length))∧
    St p.2.2.1 w (.blk p.1 [.bool p.2.2.2.2]:: .blk b6 [.slice (some ⟨BO,0,none⟩) (N+1) (N+1)]:: .blk BO (kT p.2.2.2.1.by_):: .blk b5 [.slice (some ⟨bc,0,none⟩) (N+1) (N+1)]:: .blk bc (Is p.2.2.2.1.cost):: .blk b2 [Pt bf]::(mes p.2.1++σ)))
   (fun p=>2*WM (N+1) D p.2.2.2.1+(if p.2.2.2.2=true then 1 else 0)) (b9,[],H,st0,true) bk ⟨HLe.refl _,⟨0,hW0,fun h=>by cases h⟩,hs⟩ ?_
  rintro ⟨b9,Ds,H1,st,ag⟩ w ⟨aq,⟨j,hW,hj⟩,hs⟩;dsimp only at aq hW hj hs ⊢;have Pk:=hW.lc;have Jo:=hW.lb;refine .seq (.ae (.y hs (zld pG) (.nil (.cond rfl (fun zD=>?_) (fun zD=>?_)))))
  ·refine .skip (nT (.seq (.block (.ae ?_))));subst zD;refine .o (.store hs rfl rfl fQ fun w hs=>?_);refine .nil (.ae (.y hs (zld P6) (.o (.call call236 rfl (mu hs bh (hF.mono aq) fk) ?_))));rintro _ w ⟨H2,YJ,aO,rfl,oG,hs⟩;refine .nil (.block ?_);refine .rangeFunc (gf:=271) (cap:=[Pt YJ]) (xs:=(dY s.da ts).map fun x:Arc=>[Value.agg x.v.toArray])
    (σb:=[.blk b9 [.bool false],.blk b6 [.slice (some ⟨BO,0,none⟩) (N+1) (N+1)],.blk BO (kT st.by_),.blk b5 [.slice (some ⟨bc,0,none⟩) (N+1) (N+1)],.blk bc (Is st.cost),.blk b2 [Pt bf]]) (σf:=mes Ds++σ) hs trivial rfl oG call271 br rfl
    (I:=fun k H' σb=>HLe H2 H'∧∃E6 ag,σb=[.blk b9 [.bool ag],.blk b6 [.slice (some ⟨BO,0,none⟩) (N+1) (N+1)],.blk BO (kT E6.by_),.blk b5 [.slice (some ⟨bc,0,none⟩) (N+1) (N+1)],.blk bc (Is E6.cost),.blk b2 [Pt bf]]∧
     yn (N+1) (dY s.da ts) (fun v=>gi lf v<0) D k ag E6∧WM (N+1) D E6≤WM (N+1) D st∧(ag=true→WM (N+1) D E6<WM (N+1) D st)) (Ix:=fun _ _ _=>False)
    (by rintro k _ _ σ g1 ⟨g2,g3⟩;exact ⟨g2.trans g1,g3⟩) (fun _ _ _ _ _ h=>h) ⟨HLe.refl _,st,false,rfl,hW.next,Nat.le_refl _,fun h=>by cases h⟩ ?_ ?_ (fun D c H' σb w _ h _=>h.elim)
   ·rintro l k hk H3 Mp σf3 w bP ⟨Ee,E6,ag,rfl,Gb,Mh,Mg⟩ hs ⟨rr,GV⟩;obtain ⟨x,hx⟩:=nth (l:=dY s.da ts) (by simpa using hk);obtain ⟨c1,c2,c3,c4,c5,c6⟩:=hg.ok x (List.mem_of_getElem? hx);rw [Kq hx];have hlc':=Gb.lc;have hlb':=Gb.lb;have lo1:=Gb.lo x.f c1;have lo2:=hg.d1 x.f c1;have Zm:cellAt H3 bl x.t=some (I (gi lf x.t)):=((hF.mono (aq.trans (aO.trans bP))).d).at x.t (L7 (bG aj) sp);have hf33:cellAt H3 bf 3=some (.slice (some ⟨bl,0,none⟩) lf.length cl):=cellAt.mono Vp (aq.trans (aO.trans bP));refine .region (.o (.alloc hs gX rfl fun jx w hs=>?_));refine .o (.aD (vs:=x.v) hs rfl rfl aR fun w hs=>?_);refine .nil (nT ⟨H3,[.blk jx x.v,.blk b9 [.bool ag],.blk b6 [.slice (some ⟨BO,0,none⟩) (N+1) (N+1)],.blk BO (kT E6.by_),.blk b5 [.slice (some ⟨bc,0,none⟩) (N+1) (N+1)],.blk bc (Is E6.cost),.blk b2 [Pt bf]],HLe.refl _,hs,?_⟩);rintro w nJ - hs;refine .block (.seq (.draw mix rfl hs fun w hs=>?_));refine .y 0 rfl hs an ?_;refine .z 1 rfl (zfa cZ) ?_;refine .y 2 rfl hs ai ?_;first|(refine .ixv 3 rfl hs af ak ?_;intro b55 o55 TZ)|refine .z 3 rfl (zix af ak) ?_
    refine .y 4 rfl hs ai ?_;refine .z 5 rfl jt ?_;refine .z 6 rfl zm ?_;refine .mW (t':=58) rfl (fun IL=>?_) (fun IL=>?_)
    ·refine .y 7 rfl hs an ?_;refine .z 8 rfl (zfa cZ) ?_;refine .y 9 rfl hs ai ?_;first|(refine .ixv 10 rfl hs af ak ?_;intro b62 o62 N1)|refine .z 10 rfl (zix af ak) ?_
     refine .y 11 rfl hs ai ?_;refine .z 12 rfl (zfa fL) ?_;refine .y 13 rfl hs ai ?_;refine .z 14 rfl cz ?_;refine .y 15 rfl hs an ?_;refine .z 16 rfl (zfa df) ?_;refine .y 17 rfl hs ai ?_;first|(refine .ixv 18 rfl hs af ak ?_;intro b70 o70 TY)|refine .z 18 rfl (zix af ak) ?_
     refine .y 19 rfl hs ai ?_;refine .z 20 rfl jt ?_;refine .z 21 rfl zpT ?_;refine .z 22 rfl zm ?_;refine .mW (t':=74) rfl (fun IK=>?_) (fun IK=>?_)
     ·refine .y 23 rfl hs P6 ?_;refine .z 24 rfl znc ?_;refine .z 25 rfl (zfa dS) ?_;refine .y 26 rfl hs an ?_;refine .z 27 rfl (zfa df) ?_;refine .y 28 rfl hs ai ?_;first|(refine .ixv 29 rfl hs af ak ?_;intro b81 o81 TW)|refine .z 29 rfl (zix af ak) ?_
      refine .y 30 rfl hs ai ?_;refine .z 31 rfl Bd ?_;refine .z 32 rfl zm ?_;refine .mW (t':=84) rfl (fun XP=>?_) (fun XP=>?_)
      ·refine .F 33 rfl (.F 34 rfl (.F 35 rfl (.F 36 rfl (.F 37 rfl (.F 38 rfl (.F 39 rfl (.F 40 rfl (.F 41 rfl (.zw 42 rfl zpT ?_)))))))));refine .z 43 rfl zpT ?_;refine .D hs ?_;refine (.cT (.draw mix rfl hs fun w hs=>?_));refine .y 0 rfl hs an ?_;refine .z 1 rfl (zfa df) ?_;refine .y 2 rfl hs ai ?_;refine .y 3 rfl hs mv ?_;refine .z 4 rfl (zfa df) ?_;refine .y 5 rfl hs ai ?_;refine .y 6 rfl hs an ?_;refine .z 7 rfl (zfa cZ) ?_;refine .y 8 rfl hs ai ?_;first|(refine .ixv 9 rfl hs af ak ?_;intro YT o105 Ue)|refine .z 9 rfl (zix af ak) ?_
       refine .y 10 rfl hs ai ?_;refine .z 11 rfl (zfa fL) ?_;refine .y 12 rfl hs ai ?_;refine .z 13 rfl cz ?_;refine .AJ (i:=14) (vs:=x.v) hs rfl au .none rfl pY aR ?_;first|(refine .ixv 15 rfl hs af ak ?_;intro YR o111 Ud)|refine .z 15 rfl (zix af ak) ?_
       refine .E 16 hs ?_;refine .store hs rfl rfl ak ?_;intro w hs;refine .go ?_;first|(refine .ixw 17 rfl hs aC aR ?_;intro UK o112 Le)|refine .z 17 rfl (yp aC aR) ?_
       refine .E 18 hs ?_;refine .aD (vs:=x.v) hs rfl rfl aR ?_;intro w hs;refine .go (.E 19 hs ?_);refine .store hs rfl rfl fQ ?_;intro w hs;refine .go (.D hs (nB ?_));have:=Gb.less hg hx IL IK;exact ⟨H3,_,HLe.refl _,hs.tail,Ee,E6.rlx x,true,rfl,Gb.DI hg hx IL IK,aj,fun _=>by omega⟩
      ·refine .y 33 rfl hs an ?_;refine .z 34 rfl (zfa cZ) ?_;refine .y 35 rfl hs ai ?_;first|(refine .ixv 36 rfl hs af ak ?_;intro b88 o88 TV)|refine .z 36 rfl (zix af ak) ?_
       refine .y 37 rfl hs ai ?_;refine .z 38 rfl (zfa fL) ?_;refine .y 39 rfl hs ai ?_;refine .z 40 rfl cz ?_;refine .z 41 rfl jt ?_;refine .z 42 rfl zpF ?_;refine .z 43 rfl zpT ?_;refine .D hs ?_;refine (.bX rfl (fun XA=>?_) (fun XA=>?_))
       ·refine .draw mix rfl hs fun w hs=>?_
        refine .y 0 rfl hs an ?_;refine .z 1 rfl (zfa df) ?_;refine .y 2 rfl hs ai ?_;refine .y 3 rfl hs mv ?_;refine .z 4 rfl (zfa df) ?_;refine .y 5 rfl hs ai ?_;refine .y 6 rfl hs an ?_;refine .z 7 rfl (zfa cZ) ?_;refine .y 8 rfl hs ai ?_;first|(refine .ixv 9 rfl hs af ak ?_;intro YT o105 Ue)|refine .z 9 rfl (zix af ak) ?_
        refine .y 10 rfl hs ai ?_;refine .z 11 rfl (zfa fL) ?_;refine .y 12 rfl hs ai ?_;refine .z 13 rfl cz ?_;refine .AJ (i:=14) (vs:=x.v) hs rfl au .none rfl pY aR ?_;first|(refine .ixv 15 rfl hs af ak ?_;intro YR o111 Ud)|refine .z 15 rfl (zix af ak) ?_
        refine .E 16 hs ?_;refine .store hs rfl rfl ak ?_;intro w hs;refine .go ?_;first|(refine .ixw 17 rfl hs aC aR ?_;intro UK o112 Le)|refine .z 17 rfl (yp aC aR) ?_
        refine .E 18 hs ?_;refine .aD (vs:=x.v) hs rfl rfl aR ?_;intro w hs;refine .go (.E 19 hs ?_);refine .store hs rfl rfl fQ ?_;intro w hs;refine .go (.D hs (nB ?_));have:=Gb.less hg hx IL IK;exact ⟨H3,_,HLe.refl _,hs.tail,Ee,E6.rlx x,true,rfl,Gb.DI hg hx IL IK,aj,fun _=>by omega⟩
       ·refine .skip (nB ?_);have:=Gb.src x.t c2 aj;omega
     ·refine .F 23 rfl (.F 24 rfl (.F 25 rfl (.F 26 rfl (.F 27 rfl (.F 28 rfl (.F 29 rfl (.F 30 rfl ?_)))))));refine .F 31 rfl (.F 32 rfl (.F 33 rfl (.F 34 rfl (.F 35 rfl (.F 36 rfl (.F 37 rfl (.F 38 rfl (.F 39 rfl (.F 40 rfl (.F 41 rfl (.F 42 rfl (.zw 43 rfl zpF ?_))))))))))));refine .D hs ?_;exact (.cF (.skip (nB ⟨H3,_,HLe.refl _,hs.tail,Ee,E6,ag,rfl,Gb.skip hx (fun h=>IK h.2),Mh,Mg⟩)))
    ·refine .F 7 rfl (.F 8 rfl ?_);refine .F 9 rfl (.F 10 rfl (.F 11 rfl (.F 12 rfl (.F 13 rfl (.F 14 rfl (.F 15 rfl (.F 16 rfl (.F 17 rfl (.F 18 rfl (.F 19 rfl (.F 20 rfl (.zw 21 rfl zpF ?_))))))))))));refine .z 22 rfl zm ?_;refine .F 23 rfl (.F 24 rfl (.F 25 rfl (.F 26 rfl (.F 27 rfl (.F 28 rfl (.F 29 rfl (.F 30 rfl ?_)))))));refine .F 31 rfl (.F 32 rfl (.F 33 rfl (.F 34 rfl (.F 35 rfl (.F 36 rfl (.F 37 rfl (.F 38 rfl (.F 39 rfl (.F 40 rfl (.F 41 rfl (.F 42 rfl (.zw 43 rfl zpF ?_))))))))))));refine .D hs ?_;exact (.cF (.skip (nB ⟨H3,_,HLe.refl _,hs.tail,Ee,E6,ag,rfl,Gb.skip hx (fun h=>IL h.1),Mh,Mg⟩)))
   ·rintro D3 H3 Mp w bP ⟨Ee,E6,ag,rfl,Gb,Mh,Mg⟩ hs;replace hs:St H3 w (.blk b9 [.bool ag]:: .blk b6 [.slice (some ⟨BO,0,none⟩) (N+1) (N+1)]:: .blk BO (kT E6.by_):: .blk b5 [.slice (some ⟨bc,0,none⟩) (N+1) (N+1)]:: .blk bc (Is E6.cost):: .blk b2 [Pt bf]::(mes (D3::Ds)++σ)):=St.deep (σ1:=[_,_,_,_,_,_]) hs;rw [List.length_map] at Gb;refine nB (nB (nT (.ae (.y hs (zld pG) (.nil (.region (.o (.alloc hs OI rfl fun b9 w hs=>?_))))))));refine .o (.store hs rfl rfl fQ fun w hs=>?_);refine .nil (nT ?_);exact ⟨(b9,D3::Ds,H3,E6,ag),bk,⟨aq.trans (aO.trans bP),⟨_,Gb,fun _=>rfl⟩,hs.sb⟩,by
      dsimp only
      cases ag with
      |false=>simp;omega
      |true=>have:=Mg rfl;simp;omega⟩
  ·refine .exit (xT (xT (xB (nT (.seq (.ae ?_))))));subst zD;obtain rfl:=hj rfl;refine .y hs (zld an) (.z zm ?_);first|(refine .ixv hs af ak ?_;intro b116 o116 Px)|refine .z (zix af ak) ?_
   refine .y hs (zld ai) (.zn gO (.bX rfl (fun G5=>?_) (fun G5=>?_)))
   ·refine .ae (.zn zg (.ret (rT ((Fin.iz Ds [_,_,_,_,_,_] hs fun w hs=>⟨_,results1 results211 rfl,H1,[],.nul,aq,.nil 4 none,(hs.sb).nul,hW.none hg G5⟩)))))
   ·refine .skip (nT (.ae (.zn zg (.seq (.ae (.z zm (.zn zg (.block ?_))))))));have KP:gi st.cost to<far:=by have:=hW.top to s8;have e:far=1152921504606846976:=rfl;omega
    obtain ⟨kk,cc,u,Mi,wR,NS,K0,Ai,Wq⟩:=hW.back hg s8 KP KQ;refine .loop (fun p:Nat×Nat×Value×Ent=>⟨141,marks Ds,[(11,p.2.2.1),(12,I p.2.1),(6,Pt b6)]⟩)
     (fun p w=>p.1≤kk∧(p.2.1<N+1∧gi st.cost p.2.1<far)∧bM 4 p.2.2.1 (kT (pI st.by_ to p.1)) p.2.2.2∧(∃d,ik st.by_ to p.1 d p.2.1)∧(∃d,ik st.by_ p.2.1 (kk - p.1) d u)∧
      St H1 w (p.2.2.2:: .blk b9 [.bool false]:: .blk b6 [.slice (some ⟨BO,0,none⟩) (N+1) (N+1)]:: .blk BO (kT st.by_):: .blk b5 [.slice (some ⟨bc,0,none⟩) (N+1) (N+1)]:: .blk bc (Is st.cost):: .blk b2 [Pt bf]::(mes Ds++σ)))
     (fun p=>kk - p.1) (0,to,.slice none 0 0,.nul) bk ⟨Nat.zero_le _,⟨s8,KP⟩,.nil 4 none,⟨0,.nil⟩,⟨cc,Mi⟩,hs.nul⟩ ?_
    rintro ⟨i,v,v11,en⟩ w ⟨hik,⟨Zo,Wv⟩,hO,⟨d1,BH⟩,⟨d2,xY⟩,hs⟩;dsimp only at hik Zo Wv hO BH xY hs ⊢;have Wu:v<st.by_.length:=by omega
    refine .seq (.ae (.y hs (zld mv) (.z zm ?_)));first|(refine .ixw hs aC aR ?_;intro YQ o122 Pv)|refine .z (yp aC aR) ?_
    refine .z (zfa dR) (.q hs (fJ rfl ai (hv:=(uO Wu (j:=3) aj).trans rfl)) (.zn Bd (.bX rfl (fun Ld=>?_) (fun Ld=>?_))))
    ·refine .skip (nT (.seq (.block (.region (.z zm (.y hs (zld mv) (.z zm ?_)))))));first|(refine .ixw hs aC aR ?_;intro YO o134 G4)|refine .z (yp aC aR) ?_
     refine .q hs (jA (vs:=(ga st.by_ v).v) rfl pY aR (hv:=HK Wu)) (.o (.buildSlice (cells:=(ga st.by_ v).v) hs tl rfl rfl fun YN w hs=>?_));refine .o (.append (ys:=(ga st.by_ v).v) hs mC rfl rfl hO (.own .here rfl rfl) (by simp [Arc.v,Value.oneCell']) (fun l h=>by rw [dK,lH] at h;omega) ?_);intro v137 en137 w eh hs;refine .zn zg (nB (nT (.region (.y hs (zld mv) (.z zm ?_)))));first|(refine .ixw hs aC aR ?_;intro YP o128 Uc)|refine .z (yp aC aR) ?_
     refine .z (zfa cZ) (.q hs (fJ rfl ai (hv:=(uO Wu (j:=0) aj).trans rfl)) (.zn zg (nT ?_)));obtain ⟨g1,g2⟩:=Ai v Zo Wv Ld;obtain ⟨m,hm⟩:∃m,kk - i=m+1:=by
      refine ⟨kk - i - 1,?_⟩
      rcases Nat.lt_or_ge i kk with h|h
      ·omega
      ·obtain e:kk - i=0:=by omega
       rw [e] at xY;cases xY
       omega
     rw [hm] at xY
     obtain ⟨d3,Sj⟩:∃d,ik st.by_ (ga st.by_ v).f m d u:=by cases xY with|cons _ t=>exact ⟨_,t⟩
     rw [←Mc,←HP BH] at eh;exact ⟨(i+1,(ga st.by_ v).f,v137,en137),bk,⟨by dsimp only;omega,⟨g1,g2⟩,eh,⟨_,BH.trans (.cons Ld .nil)⟩,⟨d3,by rw [show kk - (i+1)=m by omega];exact Sj⟩,hs.sb⟩,by dsimp only;omega⟩
    ·refine .exit (xT (xT (xB (nT (.ae ?_)))));obtain rfl:i=kk:=by
      rcases Nat.lt_or_ge i kk with h|h
      ·obtain ⟨m,hm⟩:∃m,kk - i=m+1:=⟨kk - i - 1,aj⟩;rw [hm] at xY
       cases xY with
       |cons hl _=>omega
      ·omega
     refine .z zm (.o (.call call244 rfl (sH hs hO (by rw [lH];omega)) ?_));rintro v139 w ⟨iY,Ob,hs⟩;refine .nil (.ae (.z zm (.zn zg (.ret (Fin.iz Ds [_,_,_,_,_,_,_] hs fun w hs=>⟨_,results1 results211 rfl,H1,_,iY,aq,Ob,hs.sb,Wq _ rfl⟩)))))
theorem HG{s:cN}{x:Arc}(bh:s.Ok)(hx:Ja s.da x):∃(i:Nat) (l:Lim),s.cu[i]? =some l∧x.l=(i:Int)∧(l.A=(x.f:Int)↔fwd s.da x)∧i<s.cu.length:=by
 obtain ⟨i,y,h1,h2⟩:=hx;have hl:=uL h1;have fk:i<s.cu.length:=by have:=(List.getElem?_eq_some_iff.1 h1).1;simpa [cN.da,eU] using this
 obtain ⟨l,NR⟩:=nth fk;have h3:=mF NR;have PM:(pE s.cu)[i]? =some y:=h1;rw [h3] at PM;cases PM
 obtain ⟨a1,a2,_⟩:=bh.arc (List.mem_of_getElem? NR) i;refine ⟨i,l,NR,?_,?_,fk⟩
 ·rcases h2 with rfl|rfl<;>rfl
 ·have hg:ga s.da i=l.arc i:=by simp [ga,cN.da,h3]
  have sf:x.l.toNat=i:=by rcases h2 with rfl|rfl<;>rfl
  unfold fwd;rw [sf,hg,←a1];exact ⟨fun e=>by exact_mod_cast e,fun e=>by exact_mod_cast e⟩
theorem lY{w:World}{s:cN}{x:Arc}(hs:St H w σ)(bh:s.Ok)(hf:Row H bf [I s.many,vl,vt,vd])(hl:RL H vl s.cu)(hx:Ja s.da x):
  aaA 245 [Pt bf,.agg x.v.toArray] w fun v w'=>v= .bool (decide (fwd s.da x))∧St H w' σ:=by
 obtain ⟨i,l,GZ,sf,hfw,si⟩:=HG bh hx;have hf1:cellAt H bf 1=some vl:=hf.at 1;refine Cl.o func245 ntmps245 ag2 ?_;refine .ae (.bx hs fun b3 w hs=>?_);refine .zn zg (.seq (.draw mix rfl hs fun w hs=>?_));refine .zw 0 rfl zm ?_;refine .z 1 rfl znc ?_;refine .z 2 rfl (zfa fM) ?_;refine .z 3 rfl (zfa bS) ?_;refine .y 4 rfl hs ft ?_;refine .z 5 rfl (zfa dR) ?_;refine .y 6 rfl hs ai ?_;refine .ixX (i:=7) hs rfl au .none hl rfl rfl aW bU GZ sf ?_;intro rP o12 gS;have hA:cellAt H rP o12=some (I l.A):=gS.get 0 rfl;refine .zw 8 rfl (zfa eo) ?_;refine .y 9 rfl hs ai ?_;refine .z 10 rfl (zfa cZ) ?_;refine .y 11 rfl hs ai ?_;refine .z 12 rfl gO ?_;refine .z 13 rfl zg ?_;refine .D hs ?_;exact .ret (Fin.bp results245 rfl ⟨by simp only [decide_eq_decide.2 hfw],hs.out⟩)
theorem rM{w:World}{u v:Nat}{s:cN}{ts:List Int}{wt:Nat→Int}{p:List Arc}(hs:St H w (.blk bt (Is ts):: .blk bl (Is lf++sp)::σ))(bh:s.Ok)
  (hf:Row H bf [I s.many,vl,.slice (some ⟨bt,0,none⟩) ts.length ts.length,.slice (some ⟨bl,0,none⟩) lf.length cl]) (hl:RL H vl s.cu) (hp:RS H 4 vp (p.map Arc.v)) (hI:C5 s.n s.da wt ts lf) (hw:RQ s.da ts lf s.n p u v) (Q1:p≠[]) (Jn:p.length<s.n):
  aaA 212 [Pt bf,vp] w fun _ w'=>St H w' (.blk bt (Is (ic s.da (wP s.da ts lf p u v) ts p)):: .blk bl (Is (FM lf (wP s.da ts lf p u v) u v)++sp)::σ):=by
 have VC:=bh.m1;have KT:s.n≤65:=by simp only [cN.n];have:=bh.m0;omega
 have Iv:HH s.da:=fun i x hx=>⟨uL hx,(bh.da.2 x (List.mem_of_getElem? hx)).2.2.2.2.2⟩
 have fk:=hI.lt;have Ah:=hI.ll;obtain ⟨m0,m1,m2,m3⟩:=Cg fk.symm Iv hw;have hsu:=hI.sg u hw.un;have hsv:=hI.sg v hw.vn;have O8:u<lf.length:=by rw [Ah];exact hw.un
 have Vb:v<lf.length:=by rw [Ah];exact hw.vn
 obtain ⟨a,cap,Zn⟩:=hp.shape;rw [List.length_map] at Zn;subst Zn;have hp0:0<p.length:=List.length_pos_iff.2 Q1;obtain ⟨x0,C7⟩:=nth hp0;obtain ⟨x1,AP⟩:=nth (l:=p) (k:=p.length - 1) aj;have hh:=hw.ch.head C7;have Q4:=hw.ch.last AP;have hf2:cellAt H bf 2=some (.slice (some ⟨bt,0,none⟩) ts.length ts.length):=hf.at 2;have Vp:cellAt H bf 3=some (.slice (some ⟨bl,0,none⟩) lf.length cl):=hf.at 3;have TQ:∀x∈p,Ja s.da x∧x.l.toNat<ts.length∧x.l=(x.l.toNat:Int):=fun x hx=>by
  obtain ⟨g1,g2,_⟩:=oN fk.symm Iv (hw.mem x hx);obtain ⟨i,l,_,g3,_⟩:=HG bh g1;exact ⟨g1,g2,by rw [g3];simp⟩
 simp only [FF] at hsu hsv;have O7:v≠u:=fun e=>by have:=hw.lu;have:=hw.lv;rw [e] at*;omega
 have htt:∀i<ts.length,0≤gi ts i∧gi ts i≤3600000000000:=fun i hi=>by
  have h1:=hI.nn i aj;have h2:=hI.tb i aj;have h3:0≤rem s.n lf:=dp fun v _=>by omega
  simp only [FF] at h2;omega
 have hM:wP s.da ts lf p u v=least s.da ts (min (-gi lf u) (gi lf v)) p:=rfl;generalize wP s.da ts lf p u v=M at*;have Xo:gi (lf.set u (gi lf u+M)) v=gi lf v:=by rw [iT O8,if_neg O7]
 refine Cl.o func212 ntmps212 ag2 ?_;refine .seq (.draw mix rfl hs fun w hs=>?_);refine .zw 0 rfl zm (.ixX (i:=1) hs rfl au .none hp rfl rfl aC aR C7 rfl ?_);intro rP o12 gS;have h14:cellAt H rP (o12+0)=some (I u):=by rw [←hh];exact gS.get 0 rfl
 refine .zw 2 rfl (zfa cZ) ?_;refine .y 3 rfl hs ai ?_;refine .z 4 rfl zm ?_;refine .z 5 rfl zm ?_;refine .z 6 rfl (cJ aC) ?_;refine .z 7 rfl iw ?_;refine .ixX (i:=8) hs rfl au .none hp rfl rfl aC aR AP aj ?_;intro Gl o19 mB;have h21:cellAt H Gl (o19+1)=some (I v):=by rw [←Q4];exact mB.get 1 rfl
 refine .zw 9 rfl (zfa df) ?_;refine .y 10 rfl hs ai ?_;refine .z 11 rfl zg ?_;refine .z 12 rfl zg ?_;refine .D hs ?_;refine .seq (.draw mix rfl hs fun w hs=>?_);refine .zw 0 rfl zm ?_;refine .z 1 rfl znc ?_;refine .z 2 rfl (zfa dS) ?_;refine .y 3 rfl hs an ?_;refine .z 4 rfl zm ?_;first|(refine .ixv 5 rfl hs af ak ?_;intro BO o27 xC)|refine .z 5 rfl (zix af ak) ?_
 refine .load (i:=6) hs rfl au .none rfl ai ?_ (hv:=gD O8 sp);refine .zw 7 rfl Md ?_;refine .z 8 rfl zm ?_;refine .z 9 rfl znc ?_;refine .z 10 rfl (zfa dS) ?_;refine .y 11 rfl hs an ?_;refine .z 12 rfl zm ?_;first|(refine .ixv 13 rfl hs af ak ?_;intro VN o35 we)|refine .z 13 rfl (zix af ak) ?_
 refine .load (i:=14) hs rfl au .none rfl ai ?_ (hv:=gD Vb sp);refine .zw 15 rfl Ju ?_;refine .z 16 rfl zg ?_;refine .D hs ?_;refine .seq (.ae (.z zm (.z (cJ aC) (.zn zm (.for (N:=p.length) (J:=fun k fr w=>fr=[(38,.slice a p.length cap),(6,I (least s.da ts (min (-gi lf u) (gi lf v)) (p.take k))),(0,Pt bf),(1,.slice a p.length cap),(4,I u),(5,I v)]∧St H w (.blk bt (Is ts):: .blk bl (Is lf++sp)::σ)) aj ?_ ?_ ?_)))))
 ·exact .mk ⟨rfl,hs⟩
 ·rintro k fr w hk ⟨rfl,hs⟩;obtain ⟨x,hx⟩:=nth hk;obtain ⟨g1,g2,g3⟩:=TQ x (List.mem_of_getElem? hx);refine .block (.ae (.ixX hs hp rfl rfl aC aR hx rfl ?_));intro VK o42 IJ;refine .q hs (bD (vs:=x.v) rfl pY aR IJ) (.o (.alloc hs gX rfl fun b8 w hs=>?_));refine .o (.aD (vs:=x.v) hs rfl rfl aR fun w hs=>?_);refine .nil (.ae (.z zm (.q hs (jA (vs:=x.v) rfl pY aR) (.o (.call call245 rfl (lY hs bh hf hl g1) ?_)))));rintro _ w ⟨rfl,hs⟩;refine .zn im (.cond rfl (fun pQ=>?_) (fun pQ=>?_))
  ·refine .draw mix rfl hs fun w hs=>?_
   refine .zw 0 rfl zm ?_;refine .z 1 rfl zm ?_;refine .z 2 rfl znc ?_;refine .z 3 rfl (zfa jj) ?_;refine .y 4 rfl hs an ?_;refine .z 5 rfl (zfa dR) ?_;refine .y 6 rfl hs ai ?_;refine .zw 7 rfl (mN (k:=x.l.toNat) rfl rfl af ak g3 g2) (.y 8 rfl hs ai ?_);refine .z 9 rfl Ju ?_;refine .z 10 rfl zg ?_;refine .D hs ?_;refine nB (nT ?_);have e:min (least s.da ts (min (-gi lf u) (gi lf v)) (p.take k)) (gi ts x.l.toNat)=least s.da ts (min (-gi lf u) (gi lf v)) (p.take (k+1)):=by rw [dv hx,By,if_neg (by simpa using pQ)]
   exact .mk ⟨rfl,hs.tail⟩ (hs:= .cons rfl (.cons rfl (.cons rfl (.dP rfl e (.cons rfl (.cons rfl (.cons rfl (.cons rfl (.nil rfl rfl)))))))))
  ·refine .skip (nB (nT ?_));have e:least s.da ts (min (-gi lf u) (gi lf v)) (p.take k)=least s.da ts (min (-gi lf u) (gi lf v)) (p.take (k+1)):=by rw [dv hx,By,if_pos (by simpa using pQ)]
   exact .mk ⟨rfl,hs.tail⟩ (hs:= .cons rfl (.cons rfl (.cons rfl (.dP rfl e (.cons rfl (.cons rfl (.cons rfl (.cons rfl (.nil rfl rfl)))))))))
 ·rintro fr w ⟨rfl,hs⟩;have e6:least s.da ts (min (-gi lf u) (gi lf v)) (List.take p.length p)=M:=by rw [List.take_length];exact hM.symm
  rw [e6];refine nT (.seq (.ae (.z zm (.z (cJ aC) (.zn zm (.for (N:=p.length) (J:=fun k fr w=>fr=[(59,.slice a p.length cap),(6,I M),(0,Pt bf),(1,.slice a p.length cap),(4,I u),(5,I v)]∧St H w (.blk bt (Is (ic s.da M ts (p.take k))):: .blk bl (Is lf++sp)::σ)) aj ?_ ?_ ?_))))))
  ·exact .mk ⟨rfl,hs⟩
  ·rintro k fr w hk ⟨rfl,hs⟩;obtain ⟨x,hx⟩:=nth hk;obtain ⟨g1,g2,g3⟩:=TQ x (List.mem_of_getElem? hx);have hpl2:=oK s.da M (p.take k) ts;have Dc:=Kd (es:=s.da) (m:=M) (ts:=ts) (p:=p.take k) aj (by simp only [FF];omega) (by rw [List.length_take];omega) (fun y hy=>(TQ y (List.mem_of_mem_take hy)).2.1) x.l.toNat;have h9:=htt _ g2;refine .block (.ae (.ixX hs hp rfl rfl aC aR hx rfl ?_));intro b63 o63 uo;refine .q hs (bD (vs:=x.v) rfl pY aR uo) (.o (.alloc hs gX rfl fun jx w hs=>?_));refine .o (.aD (vs:=x.v) hs rfl rfl aR fun w hs=>?_);refine .nil (.ae (.z zm (.q hs (jA (vs:=x.v) rfl pY aR) (.o (.call call245 rfl (lY hs bh hf hl g1) ?_)))));rintro _ w ⟨rfl,hs⟩;refine .nil (.cond rfl (fun F0=>?_) (fun F0=>?_))
   ·refine .draw mix rfl hs fun w hs=>?_
    refine .zw 0 rfl zm ?_;refine .z 1 rfl znc ?_;refine .z 2 rfl (zfa jj) ?_;refine .y 3 rfl hs an ?_;refine .z 4 rfl (zfa dR) ?_;refine .y 5 rfl hs ai ?_;refine .zw 6 rfl (mN (k:=x.l.toNat) rfl rfl af ak g3 g2) (.y 7 rfl hs ai ?_);refine .z 8 rfl zm ?_;refine .z 9 rfl cz ?_;refine .zw 10 rfl (mN (k:=x.l.toNat) rfl rfl af ak g3 g2) (.E 11 hs ?_);refine .store hs rfl rfl ak ?_;intro w hs;refine .go (.D hs (nB (nT ?_)));have e:ic s.da M ts (p.take (k+1))=(ic s.da M ts (p.take k)).set x.l.toNat (gi (ic s.da M ts (p.take k)) x.l.toNat+M):=by rw [dv hx,yW,push,if_pos (by simpa using F0)]
    exact .mk ⟨rfl,by rw [e];exact hs.tail⟩
   ·refine .draw mix rfl hs fun w hs=>?_
    refine .zw 0 rfl zm ?_;refine .z 1 rfl znc ?_;refine .z 2 rfl (zfa jj) ?_;refine .y 3 rfl hs an ?_;refine .z 4 rfl (zfa dR) ?_;refine .y 5 rfl hs ai ?_;refine .zw 6 rfl (mN (k:=x.l.toNat) rfl rfl af ak g3 g2) (.y 7 rfl hs ai ?_);refine .z 8 rfl zm ?_;refine .z 9 rfl iw ?_;refine .zw 10 rfl (mN (k:=x.l.toNat) rfl rfl af ak g3 g2) (.E 11 hs ?_);refine .store hs rfl rfl ak ?_;intro w hs;refine .go (.D hs (nB (nT ?_)));have e:ic s.da M ts (p.take (k+1))=(ic s.da M ts (p.take k)).set x.l.toNat (gi (ic s.da M ts (p.take k)) x.l.toNat - M):=by rw [dv hx,yW,push,if_neg (by simpa using F0)]
    exact .mk ⟨rfl,by rw [e];exact hs.tail⟩
  ·rintro fr w ⟨rfl,hs⟩;rw [List.take_length] at hs;refine nT (.ae (.z zm (.z znc (.z (zfa dS) (.y hs (zld an) (.z zm ?_))))));first|(refine .ixv hs af ak ?_;intro b96 o96 NZ)|refine .z (zix af ak) ?_
   refine .q hs (fJ rfl ai (hv:=gD O8 sp)) (.z zm (.z cz ?_));first|(refine .ixv hs af ak ?_;intro YU o100 zE)|refine .z (zix af ak) ?_
   refine .o (.store hs rfl rfl ak ?_ dr (qQ O8 sp) (m8 O8 sp _));intro w hs;refine .nil (.region (.z zm (.z znc (.z (zfa dS) (.y hs (zld an) (.z zm ?_))))));first|(refine .ixv hs af ak ?_;intro YS o106 Ej)|refine .z (zix af ak) ?_
   refine .q hs (fJ rfl ai (hv:=gD (by rw [List.length_set];exact Vb) sp)) ?_;refine .z zm (.z iw ?_);first|(refine .ixv hs af ak ?_;intro b110 o110 ZW)|refine .z (zix af ak) ?_
   refine .o (.store hs rfl rfl ak ?_ dr (qQ (by rw [List.length_set];exact Vb) sp) (m8 (by rw [List.length_set];exact Vb) sp _));intro w hs;exact .nil (Fin.yg results212 hs)
theorem Ku{w:List Int}{N:Nat}(hw:w.length=N+1):gi (w.set 0 (-nq w k)) 0 - gi (w.set 0 (-nq w k)) (k+1)= -nq w (k+1):=by
 rw [iT aj,iT aj,if_pos rfl,if_neg aj];simp only [nq,aU];omega
theorem zR{w:World}{v:Value}{s:cN}(hs:St H w σ)(bh:s.Ok)(hr:RSy H v s)(Cv:RI H vw ws)(KG:ws.length=s.n)(ui:lh ws)(KM:s.Sound):
  aaA 140 [v,vw] w fun v w'=>(v= .tuple #[.pointer none,.bool false]∧tz s.da (rY ws s.n) s.n∧St H w' σ)∨
   (∃H1 bf bt bl cl ts lf vl sp,HLe H H1∧v= .tuple #[Pt bf,.bool true]∧Aa H1 bf s ts lf vl bt bl cl sp∧qW s.n s.da (rY ws s.n) ts∧St H1 w' σ):=by
 obtain ⟨vl,rfl,hr⟩:=hr;obtain ⟨al,cpl,rfl⟩:=RL.shape hr;obtain ⟨aw,cw,rfl⟩:=RI.shape Cv;obtain ⟨N,hN⟩:=Int.eq_ofNat_of_zero_le bh.m0;have VC:=bh.m1;have hn:s.n=N+1:=by simp [cN.n,hN]
 have NP:=bh.len;have oO:=bh.da;have En:s.da.length=s.cu.length:=by simp [cN.da,eU]
 have Iv:HH s.da:=fun i x hx=>⟨uL hx,(bh.da.2 x (List.mem_of_getElem? hx)).2.2.2.2.2⟩
 have gM:∀x∈s.da,x.f<s.n∧x.t<s.n:=fun x hx=>by have:=oO.2 x hx;omega
 have Wp:=OP ws (n:=s.n) aj;unfold lh at ui;rw [KG] at ui;refine Cl.o func140 ntmps140 ag2 ?_;refine .ae (.bx hs fun b2 w hs=>?_);refine .z zg (.zn zg (.scope (.cut (fun fs w=>∃bf bt bl cl sp,np fs ⟨73,[],[(6,Pt bf)]⟩∧St H w (.blk bf [I s.many,.slice al s.cu.length cpl,.slice (some ⟨bt,0,none⟩) s.cu.length s.cu.length,.slice (some ⟨bl,0,none⟩) ws.length cl]:: .blk bt (Is (List.replicate s.cu.length 0)):: .blk bl (Is ws++sp)::σ)) ?_ ?_)))
 ·refine .draw mix rfl hs fun w hs=>?_
  refine .ys 0 rfl hs [_,_] bZ aZ ?_;refine .z 1 rfl (zfa bS) ?_;refine .y 2 rfl hs ft ?_;refine .z 3 rfl (cJ aW) ?_;refine .z 5 rfl zm ?_;refine .e2 (i:=4) (j:=6) au rfl rfl rfl rfl .none .none hs ?_ ?_
  ·refine .DS s.cu.length hs rfl rfl af uP rfl ak du aj ?_;intro Df w hs;refine .go (.E 6 hs ?_);refine .call call210 rfl (jQ hs Cv aj) ?_;rintro v17 w ⟨en17,hO,hs⟩;obtain ⟨bl,cl,sp,rfl,rfl,rj⟩:=hO.some aj;refine .go (.zw 7 rfl (zbd [_,_,_,_] su) (.E 8 hs ?_));refine .box hs rfl rfl ?_;intro Gl w hs;refine .go (.zw 9 rfl zg ?_);refine .D hs ?_;exact nT ⟨Gl,Df,bl,cl,sp,bk,hs.sb⟩
  ·refine .call call210 rfl (jQ hs Cv aj) ?_;rintro v17 w ⟨en17,hO,hs⟩;obtain ⟨bl,cl,sp,rfl,rfl,rj⟩:=hO.some aj;refine .go (.E 4 hs ?_);refine .DS s.cu.length hs rfl rfl af uP rfl ak du aj ?_;intro Df w hs;refine .go (.zw 7 rfl (zbd [_,_,_,_] su) (.E 8 hs ?_));refine .box hs rfl rfl ?_;intro Gl w hs;refine .go (.zw 9 rfl zg ?_);refine .D hs ?_;exact nT ⟨Gl,Df,bl,cl,sp,bk,hs.sb⟩
 ·rintro fs w ⟨bf,bt,bl,cl,sp,i7,hs⟩;refine WE.sub ?_ i7;obtain ⟨H1,aq,X9,hs⟩:=hs.bQ .here;have ZM:cellAt H1 bf 0=some (I (N:Int)):=by have:=X9.at 0 (v:=I s.many);rwa [hN] at this
  have Vp:cellAt H1 bf 3=some (.slice (some ⟨bl,0,none⟩) ws.length cl):=X9.at 3;have Ea:=hr.mono aq;refine .ae (.z zm (.z znc (.z (zfa dS) (.y hs (zld an) (.q hs (mN (k:=0) rfl rfl af ak rfl aj) (.o (.store hs rfl rfl ak ?_ dr (qQ aj sp) (m8 aj sp _))))))));intro w hs;refine .nil (.seq (.ae (.z zm (.z znc (.z (zfa fM) (.z (zfa bT) (.y hs (zld ai) (.zn zm (.for (N:=N) (J:=fun k fr w=>fr=[(6,Pt bf)]∧St H1 w (.blk bt (Is (List.replicate s.cu.length 0)):: .blk bl (Is (ws.set 0 (-nq ws k))++sp)::σ)) aj ?_ ?_ ?_)))))))))
  ·exact .mk ⟨rfl,by simpa [nq,aU] using hs⟩
  ·rintro k fr w hk ⟨rfl,hs⟩;have e:=Ku (w:=ws) (N:=N) (k:=k) aj;have BH:=Bj ws (k+1);have xY:bK ws (k+1+1)≤bK ws s.n:=vk (fun v=>by omega) aj;simp only [FF] at ui;refine .block (.ae (.z zm (.zn zg (.draw mix rfl hs fun w hs=>?_))));refine .zw 0 rfl zm ?_;refine .z 1 rfl znc ?_;refine .z 2 rfl (zfa dS) ?_;refine .y 3 rfl hs an ?_;refine .zw 4 rfl (mN (k:=0) rfl rfl af ak rfl aj) (.load (i:=5) hs rfl au .none rfl ai ?_ (hv:=gD (by rw [List.length_set];omega) sp));refine .zw 6 rfl zm ?_;refine .z 7 rfl znc ?_;refine .z 8 rfl (zfa dS) ?_;refine .y 9 rfl hs an ?_;refine .z 10 rfl zm ?_;refine .z 11 rfl cz ?_;refine .zw 12 rfl (mN (k:=k+1) rfl rfl af ak aj aj) (.load (i:=13) hs rfl au .none rfl ai ?_ (hv:=gD (by rw [List.length_set];omega) sp));refine .zw 14 rfl iw (.zw 15 rfl (mN (k:=0) rfl rfl af ak rfl aj) (.E 16 hs ?_));refine .store hs rfl rfl ak ?_ dr (qQ (by rw [List.length_set];omega) sp) (m8 (by rw [List.length_set];omega) sp _);intro w hs;refine .go (.D hs (nB (nT ?_)));rw [e,List.set_set] at hs;exact .mk ⟨rfl,hs⟩
  ·rintro fr w ⟨rfl,hs⟩;have Ak:C5 s.n s.da (rY ws s.n) (List.replicate s.cu.length 0) (ws.set 0 (-nq ws N)):=by
    rw [←En,hn];rw [hn] at ui;refine C5.start ui (by rw [List.length_set];omega) (fun v hv=>?_) KM;rw [iT aj]
    cases v with
    |zero=>rw [if_pos rfl,Fh]
    |succ v=>rw [if_neg aj,Fi]
   refine nT (.seq (.label (nT (.block ?_))));refine .loop (fun _:bB×List Int×List Int=>⟨73,[],[(6,Pt bf)]⟩)
    (fun p w=>HLe H1 p.1∧C5 s.n s.da (rY ws s.n) p.2.1 p.2.2∧St p.1 w (.blk bt (Is p.2.1):: .blk bl (Is p.2.2++sp)::σ)) (fun p=>(rem s.n p.2.2).toNat) (H1,List.replicate s.cu.length 0,ws.set 0 (-nq ws N))
    bk ⟨HLe.refl _,Ak,hs⟩ ?_
   rintro ⟨H2,ts,lf⟩ w ⟨aO,hI,hs⟩;dsimp only at aO hI hs ⊢;have fk:=hI.lt;have Ah:=hI.ll;have Oa:Row H2 bf [I s.many,.slice al s.cu.length cpl,.slice (some ⟨bt,0,none⟩) ts.length ts.length,.slice (some ⟨bl,0,none⟩) lf.length cl]:=by
    rw [fk,En,Ah,←KG];exact X9.mono aO
   have hf32:cellAt H2 bf 3=some (.slice (some ⟨bl,0,none⟩) lf.length cl):=Oa.at 3;refine .block (.seq (.ae (.z zm (.z znc (.z (zfa dS) (.y hs (zld an) (.z (cJ af) (.zn zm (.for (N:=lf.length) (J:=fun k fr w=>fr=[(53,.slice (some ⟨bl,0,none⟩) lf.length cl),(6,Pt bf)]∧(∀v<k,gi lf v≤0)∧St H2 w (.blk bt (Is ts):: .blk bl (Is lf++sp)::σ)) aj ?_ ?_ ?_)))))))))
   ·exact .mk ⟨rfl,fun v hv=>by omega,hs⟩
   ·rintro k fr w hk ⟨rfl,eZ,hs⟩;refine .block (.ae (.z zm ?_));first|(refine .ixv hs af ak ?_;intro Sw o58 AS)|refine .z (zix af ak) ?_
    refine .q hs (fJ rfl ai (hv:=gD hk sp)) (.z zg (.zn zg (.seq (.ae (.z zm (.zn rl (.bX rfl (fun F1=>?_) (fun F1=>?_))))))))
    ·refine .exit (xT (xB (nT ?_)));exact .mk ⟨rfl,fun v hv=>by
       by_cases e:v=k
       ·subst e;exact F1
       ·exact eZ v aj,hs⟩
    ·refine .skip (nT (.ae (.z zm (.z zm ?_))));obtain ⟨Ha,Q4,hra,hsa,-,hba⟩:=hs.FN;obtain ⟨Hb,Jo,hrb,hsb,-,Dd⟩:=hsa.FN;refine .o (.call call211 rfl (tj (s:=s) (to:=k) hsb bh ⟨Oa.mono (Q4.trans Jo),hr.mono (aq.trans (aO.trans (Q4.trans Jo))),hra.mono Jo,hrb⟩ aj aj hI.fe aj aj) ?_);rintro v64 w ⟨Hc,p,en,Pk,hO,C8,Z2⟩;have hs:=hba (HLe.refl _) (Dd Pk C8);obtain ⟨ap,lp,cp,rfl,hlp⟩:=hO.shape;obtain rfl:lp=p.length:=by rw [dK] at hlp;omega
     refine .zn zg (.seq (.ae (.z zm (.z (cJ aC) (.zn gO (.bX rfl (fun F0=>?_) (fun F0=>?_)))))))
     ·refine .ae (.z zg (.zn zg (.ret (rT (rB (rT (rB (rT (rB (rT (rB (rS (Fin.mi results140 rfl rfl ?_)))))))))))))
      rcases Z2 with ⟨_,R,hS,hR,s8⟩|⟨hp,_⟩
      ·exact .inl ⟨rfl,hI.open gM hS hR aj s8 aj,(hs.le (aq.trans aO)).out⟩
      ·exact (hp (List.length_eq_zero_iff.1 aj)).elim
     ·refine .skip (nT (.ae (.z zm (.z zm ?_))));obtain ⟨hp,Jn,u,hw⟩:=Z2.resolve_left fun h=>by rw [h.1] at F0;exact F0 rfl
      obtain ⟨H3,bP,hRS,hs⟩:=bM.bQ (cs:=p.map Arc.v) hO (fun c hc=>by simp only [List.mem_map] at hc;obtain ⟨x,_,rfl⟩:=hc;rfl) aj (by rw [List.length_map];omega) hs dr;refine .o (.call call212 rfl (rM hs bh (Oa.mono bP) (hr.mono (aq.trans (aO.trans bP))) hRS hI hw hp Jn) ?_);rintro v70 w hs;refine .nil (.exit (xN (xT (xN (xT (xB (nT ?_)))))));obtain ⟨q1,q2⟩:=hI.send Iv hw aj;have q3:0≤rem s.n (FM lf (wP s.da ts lf p u k) u k):=dp fun v _=>by omega
      exact ⟨(H3,ic s.da (wP s.da ts lf p u k) ts p,FM lf (wP s.da ts lf p u k) u k),bk,⟨aO.trans bP,q1,hs⟩,by dsimp only;omega⟩
   ·rintro fr w ⟨rfl,eZ,hs⟩;refine nT (.ae (.z zm (.z zg (.zn zg (.ret (rB (rT (rB (rS (Fin.mi results140 rfl rfl ?_))))))))));obtain ⟨H3,l3,r3,hs⟩:=hs.bQ .here;obtain ⟨H4,l4,r4,hs⟩:=hs.bQ .here;exact .inr ⟨H4,bf,bt,bl,cl,ts,lf,_,sp,aq.trans (aO.trans (l3.trans l4)),rfl,⟨Oa.mono (l3.trans l4),hr.mono (aq.trans (aO.trans (l3.trans l4))),r3.mono l4,r4⟩,hI.ok gM Wp (fun v hv=>eZ v aj),hs⟩
theorem uD{w:World}{v:Value}(hs:St H w σ)(hr:RI H v ws):aaA 207 [v] w fun v w'=>∃b,v= .bool b∧(b=true↔lh ws)∧St H w' σ:=by
 obtain ⟨a,c,rfl⟩:=RI.shape hr;have hl:=(RI.len hr).2.2;refine Cl.o func207 ntmps207 ag1 ?_;refine .ae (.zn zg (.ae (.zn zg (.seq (.ae (.z zm (.z (cJ af) (.zn zm (.for (N:=ws.length) (J:=fun k fr w=>fr=[(6,.slice a ws.length c),(3,I (3600000000000 - bK ws k))]∧bK ws k≤3600000000000∧St H w σ) aj ?_ ?_ ?_)))))))))
 ·exact .mk ⟨rfl,by simp [bK,aU],hs⟩
 ·rintro k fr w hk ⟨rfl,hle,hs⟩;have hx:=bG hk;have h0:0≤bK ws k:=dp fun v _=>by omega
  have h1:bK ws (k+1)=bK ws k+max (gi ws k) (-gi ws k):=rfl;refine .block (.ae ?_);first|(refine .ixv hs af ak ?_;intro jx o10 pR)|refine .z (zix af ak) ?_
  refine .y hs (zld ai) (.zn zg (.seq (.ae (.z zm (.z zm (.z Md (.z jt (.z zm (.mW (t':=16) rfl (fun tc=>?_) (fun tc=>?_))))))))))
  ·exact .Fs 3 4 false (.zn zpT (.cT (.ae (.zn zg (.ret (rT (rB (rT (rB (rT (Fin.bp results207 rfl ⟨false,rfl,⟨fun h=>(by cases h),fun h=>(Bm (k:=k+1) hk (by simp only [FF];omega) h).elim⟩,hs⟩)))))))))))
  ·refine .T (.z zm (.T (.z zm (.T (.z q5 (.zn zpF (.bX rfl (fun AW=>?_) (fun AW=>?_))))))))
   ·exact .ae (.zn zg (.ret (rT (rB (rT (rB (rT (Fin.bp results207 rfl ⟨false,rfl,⟨fun h=>(by cases h),fun h=>(Bm (k:=k+1) hk (by simp only [FF];omega) h).elim⟩,hs⟩))))))))
   ·exact .skip (nT (.region (.z zm (.z zm (.z zm (.z Md (.z HM (.z iw (.zn zg (nB (nT (.mk ⟨rfl,aj,hs⟩ (hs:= .cons rfl (.cons rfl (.cons rfl (.dP rfl aj (.nil rfl rfl)))))))))))))))))
 ·rintro fr w ⟨rfl,hle,hs⟩;exact nT (.ae (.zn zg (.ret (Fin.bp results207 rfl ⟨true,rfl,⟨fun _=>hle,fun _=>rfl⟩,hs⟩))))
theorem oX{w:World}{v:Value}{s:cN}(hs:St H w σ)(hr:RSy H v s)(Cv:RI H vw ws):aaA 138 [v,vw] w fun v w'=>v=I (iD s ws)∧St H w' σ:=by
 obtain ⟨vl,rfl,hr⟩:=hr;obtain ⟨al,cpl,rfl⟩:=RL.shape hr;obtain ⟨aw,cw,rfl⟩:=RI.shape Cv;have hlw:=(RI.len Cv).2.2;have hn:s.check=0→0≤s.many∧s.many≤64∧(s.n:Int)=s.many+1:=fun h=>by
  have h1:=s.dt.1 h;have:=h1.m0;have:=h1.m1;simp only [cN.n];omega
 refine Cl.o func138 ntmps138 ag2 ?_;refine .ae (.bx hs fun b2 w hs=>?_);refine .zn zg (.seq (.ae (.y hs (zls [_,_] bZ aZ) (.o (.call call113 rfl (jV (s:=s) hs ⟨_,rfl,hr⟩) ?_)))));rintro _ w ⟨rfl,hs⟩;refine .zn zg (.ae (.z zm (.zn gE (.eN rfl (fun nP=>?_) (fun nP=>?_)))))
 ·exact .ae (.z zm (.zn zg (.ret (rT (Fin.bp results138 rfl ⟨by unfold iD;rw [if_pos nP],hs.tail⟩)))))
 ·refine .skip (nT (.seq (.ae (.z zm ?_))));obtain ⟨n0,n1,n2⟩:=hn nP;refine .z (cJ af) (.z (zfa bT) (.y hs (zld ai) (.z cz (.z gE (.z zm (.Js (t':=17) rfl (fun Ga=>?_) (fun Ga=>?_)))))))
  ·exact .Fs 3 6 false (.zn zpT (.cT (.ae (.zn zg (.ret (rT (Fin.bp results138 rfl ⟨by unfold iD;rw [if_neg aj,if_neg aj],hs.tail⟩)))))))
  ·refine .T (.z zm (.T (.o (.call call207 rfl (uD hs Cv) ?_))));rintro _ w ⟨bz,rfl,ZY,hs⟩;refine .T (.z im (.zn zpF (.cond rfl (fun kf=>?_) (fun kf=>?_))))
   ·exact .ae (.zn zg (.ret (rT (Fin.bp results138 rfl ⟨by unfold iD;rw [if_neg aj,if_neg (fun h=>by rw [ZY.2 h.2] at kf;cases kf)],hs.tail⟩))))
   ·exact .skip (nT (.ae (.zn zg (.ret (Fin.bp results138 rfl ⟨by unfold iD;rw [if_neg aj,if_pos ⟨aj,ZY.1 (by simpa using kf)⟩],hs.tail⟩)))))
theorem jU{w:World}{v:Value}{s:cN}(hs:St H w σ)(hr:RSy H v s)(Cv:RI H vw ws):
  aaA 72 [v,vw] w fun v w'=>∃H1 e pf,HLe H H1∧v= .tuple #[pf,I e]∧Jg s ws e∧St H1 w' σ∧(e≠0→pf= .pointer none)∧
   (e=0→∃bf bt bl cl ts lf vl sp,pf=Pt bf∧Aa H1 bf s ts lf vl bt bl cl sp∧qW s.n s.da (rY ws s.n) ts∧s.Ok∧bK ws s.n≤FF):=by
 obtain ⟨vl,rfl,hr⟩:=hr;refine Cl.o func72 ntmps72 ag2 ?_;refine .ae (.bx hs fun b2 w hs=>?_);refine .z zg (.zn zg (.seq (.ae (.y hs (zls [_,_] bZ aZ) (.z zm (.o (.call call138 rfl (oX (s:=s) hs ⟨_,rfl,hr⟩ Cv) ?_)))))));rintro _ w ⟨rfl,hs⟩;refine .zn zg (.ae (.z zm (.zn gE (.eN rfl (fun iX=>?_) (fun iX=>?_)))))
 ·exact .ae (.z zm (.z zg (.zn zg (.ret (rT (Fin.mi results72 rfl rfl ⟨H,_,_,HLe.refl _,rfl,.bad iX,hs.tail,fun _=>rfl,fun h=>(iX h).elim⟩))))))
 ·refine .skip (nT (.seq (.ae (.y hs (zls [_,_] bZ aZ) ?_))));obtain ⟨bh,KG,ui⟩:=z6 iX;refine .o (.call call139 rfl (kQ (s:=s) hs bh ⟨_,rfl,hr⟩) ?_);rintro _ w ⟨H1,b,aq,rfl,hb,hs⟩;refine .zn im (.cond rfl (fun kV=>?_) (fun kV=>?_))
  ·exact .ae (.z zg (.zn zg (.ret (rT (Fin.mi results72 rfl rfl ⟨H1,_,_,aq,rfl,.clash iX (fun h=>by rw [hb.2 h] at kV;cases kV),hs.tail,fun _=>rfl,fun h=>by cases h⟩)))))
  ·refine .skip (nT (.ae (.y hs (zls [_,_] bZ aZ) (.z zm ?_))));have KM:s.Sound:=hb.1 (by simpa using kV);refine .o (.call call140 rfl (zR (s:=s) hs bh ⟨_,rfl,hr.mono aq⟩ (Cv.mono aq) KG ui KM) ?_);rintro v21 w jJ;obtain ⟨pf,bb,H2,aO,rfl,hs,hT,hF⟩:∃pf bb H2,HLe H1 H2∧v21= .tuple #[pf,.bool bb]∧St H2 w (.blk b2 [I s.many,vl]::σ)∧(bb=false→pf= .pointer none∧tz s.da (rY ws s.n) s.n)∧
     (bb=true→∃bf bt bl cl ts lf vl sp,pf=Pt bf∧Aa H2 bf s ts lf vl bt bl cl sp∧qW s.n s.da (rY ws s.n) ts):=by
    rcases jJ with ⟨rfl,h1,h2⟩|⟨H2,bf,bt,bl,cl,ts,lf,vl,sp,h1,rfl,h2,h3,h4⟩
    ·exact ⟨_,false,H1,HLe.refl _,rfl,h2,fun _=>⟨rfl,h1⟩,fun h=>by cases h⟩
    ·exact ⟨_,true,H2,h1,rfl,h4,fun h=>(by cases h),fun _=>⟨bf,bt,bl,cl,ts,lf,vl,sp,rfl,h2,h3⟩⟩
   refine .z zm (.z zex (.z zex (.z zg (.zn zg (.seq (.ae (.z zm (.zn im (.cond rfl (fun kA=>?_) (fun kA=>?_))))))))))
   ·exact .ae (.z zg (.zn zg (.ret (rT (Fin.mi results72 rfl rfl ⟨H2,_,_,aq.trans aO,rfl,.opn iX KM (hT (by simpa using kA)).2,hs.tail,fun _=>rfl,fun h=>by cases h⟩)))))
   ·refine .skip (nT (.ae (.z zm (.z zg (.zn zg (.ret (Fin.mi results72 rfl rfl ?_)))))));obtain ⟨bf,bt,bl,cl,ts,lf,vl,sp,rfl,h2,h3⟩:=hF (by simpa using kA);have W9:0<s.n:=by simp [cN.n]
    have zr:s.n≤65:=by have:=bh.m0;have:=bh.m1;simp only [cN.n];omega
    have Tp:bK ws s.n≤FF:=by unfold lh at ui;rwa [KG] at ui
    exact ⟨H2,_,_,aq.trans aO,rfl,.ok iX KM (h3.value W9 zr bh.da Tp).2.1,hs.tail,fun h=>(h rfl).elim,fun _=>⟨bf,bt,bl,cl,ts,lf,vl,sp,rfl,h2,h3,bh,Tp⟩⟩
theorem jn{w:World}{s:cN}{ts:List Int}(hs:St H w σ)(bh:s.Ok)(hF:Aa H bf s ts lf vl bt bl cl sp)(Gf:qW s.n s.da (rY ws s.n) ts)(ui:bK ws s.n≤FF):
  aaA 73 [Pt bf] w fun v w'=>v=I (dot s.da ts (·.c))∧Jt s.da (s.wt ws) s.n (dot s.da ts (·.c))∧dot s.da ts (·.c)≤BB∧-BB≤dot s.da ts (·.c)∧St H w' σ:=by
 obtain ⟨aak,aaj,hFt,hFd⟩:=hF;obtain ⟨al,cpl,rfl⟩:=RL.shape aaj;have NP:=bh.len;have En:s.da.length=s.cu.length:=by simp [cN.da,eU]
 have fk:=Gf.lt;have W9:0<s.n:=by simp [cN.n]
 have zr:s.n≤65:=by have:=bh.m0;have:=bh.m1;simp only [cN.n];omega
 have hv:=Gf.value W9 zr bh.da ui;have hd:=LG (es:=s.da) fk;have hf1:cellAt H bf 1=some (.slice al s.cu.length cpl):=aak.at 1;have hf2:cellAt H bf 2=some (.slice (some ⟨bt,0,none⟩) ts.length ts.length):=aak.at 2;refine Cl.o func73 ntmps73 ag1 ?_;refine .ae (.zn zg (.ae (.zn zg (.seq (.ae (.z zm (.z znc (.z (zfa fM) (.z (zfa bS) (.y hs (zld ft) (.z (cJ aW) (.zn zm (.for (N:=s.cu.length) (J:=fun k fr w=>fr=[(10,.slice al s.cu.length cpl),(3,I (IntKind.i64.wrap (IY s.da ts k))),(0,Pt bf)]∧St H w σ) aj ?_ ?_ ?_)))))))))))))
 ·exact .mk ⟨rfl,hs⟩ (hs:= .cons rfl (.cons rfl (.cons rfl (.dP rfl (by simp [IY,aU,BC]) (.cons rfl (.nil rfl rfl))))))
 ·rintro k fr w hk ⟨rfl,hs⟩;obtain ⟨l,hl⟩:=nth hk;have hg:(ga s.da k).c=l.M:=by simp [ga,cN.da,mF hl,Lim.arc]
  have Sc:=bh.lim l (List.mem_of_getElem? hl);have Sd:k<ts.length:=by omega
  have To:=Gf.nn k aj;have hct:cellAt H bt k=some (I (gi ts k)):=hFt.at k (kB Sd);have hmul:gi ts k*l.M≤72000000000000000∧-72000000000000000≤gi ts k*l.M:=by
   simp only [FF] at To;have g1:gi ts k*l.M≤gi ts k*20000:=Int.mul_le_mul_of_nonneg_left Sc.2.2.2.1.2 To.1;have g2:gi ts k*(-20000)≤gi ts k*l.M:=Int.mul_le_mul_of_nonneg_left Sc.2.2.2.1.1 To.1;omega
  refine .block (.ae (.z zm (.ixX hs aaj rfl rfl aW bU hl rfl ?_)));intro Df o15 iL;refine .q hs (bD (vs:=l.c) rfl mw bU iL) (.o (.alloc hs gZ rfl fun b5 w hs=>?_));refine .z zg (.o (.aD (vs:=l.c) hs rfl rfl bU fun w hs=>?_));refine .nil (.draw mix rfl hs fun w hs=>?_);refine .zw 0 rfl zm ?_;refine .z 1 rfl zm ?_;refine .z 2 rfl znc ?_;refine .z 3 rfl (zfa jj) ?_;refine .y 4 rfl hs an ?_;refine .z 5 rfl zm ?_;refine .zw 6 rfl (mN (k:=k) rfl rfl af ak rfl Sd) (.r (i:=7) hs rfl au .none (aP rfl ai hct) ?_);refine .zw 8 rfl (zfa gI) ?_;refine .y 9 rfl hs ai ?_;refine .z 10 rfl nf ?_;refine .zw 11 rfl (M8 rfl rfl) (.zw 12 rfl zg ?_);refine .D hs ?_;exact nB (nT (.mk ⟨rfl,hs.tail⟩ (hs:= .cons rfl (.cons rfl (.cons rfl (.dP rfl (by rw [FT];simp only [IY,aU,hg]) (.cons rfl (.nil rfl rfl))))))))
 ·rintro fr w ⟨rfl,hs⟩;rw [←En,←hd,nO (by have:=hv.2.2;simp only [BB] at this;omega)];exact nT (.ae (.z zm (.zn zg (.ret (Fin.bp results73 rfl ⟨rfl,hv.1,hv.2.2.1,hv.2.2.2,hs⟩)))))
theorem zU{w:World}{v:Value}{s:cN}(hs:St H w σ)(hr:RSy H v s)(Cv:RI H vw ws):
  aaA 27 [v,vw] w fun v w'=>∃H1 n e,HLe H H1∧v= .tuple #[I n,I e]∧tA s ws n e∧St H1 w' σ:=by
 obtain ⟨vl,rfl,hr⟩:=hr;refine Cl.o func27 ntmps27 ag2 ?_;refine .ae (.bx hs fun b2 w hs=>?_);refine .z zg (.zn zg (.ae (.y hs (zls [_,_] bZ aZ) (.z zm (.o (.call call72 rfl (jU (s:=s) hs ⟨_,rfl,hr⟩ Cv) ?_))))));rintro _ w ⟨H1,e,pf,aq,rfl,hA,hs,fX,heq⟩;refine .z zm (.z zex (.z zex (.z zg (.zn zg (.seq (.ae (.z zm (.zn gE (.eN rfl (fun iL=>?_) (fun iL=>?_))))))))))
 ·exact .ae (.z zm (.z zg (.zn zg (.ret (rT (Fin.mi results27 rfl rfl ⟨H1,_,_,aq,rfl,⟨hA,fun _=>rfl,fun h=>(iL h).elim⟩,hs.tail⟩))))))
 ·refine .skip (nT (.ae (.z zm ?_)));subst iL;obtain ⟨bf,bt,bl,cl,ts,lf,vl,sp,rfl,hF,Gf,bh,ui⟩:=heq rfl;refine .o (.call call73 rfl (jn hs bh hF Gf ui) ?_);rintro _ w ⟨rfl,h1,h2,h3,hs⟩;exact .z zg (.zn zg (.ret (Fin.mi results27 rfl rfl ⟨H1,_,_,aq,rfl,⟨hA,fun h=>(h rfl).elim,fun _=>⟨h1,h2,h3⟩⟩,hs.tail⟩)))
theorem wy{w:World}(hs:St H w σ)(Cv:RI H vw ws)(hlw:ws.length≤1000000)(hb:∀k,-9223372036854775807≤gi ws k∧gi ws k≤9223372036854775807):
  aaA 102 [vw] w fun v w'=>∃H1,HLe H H1∧RI H1 v (Bw ws)∧St H1 w' σ:=by
 obtain ⟨aw,cw,rfl⟩:=RI.shape Cv;refine Cl.o func102 ntmps102 ag1 ?_;refine .ae (.zn zg (.ae (.z zm (.z (cJ af) (.o (.DS ws.length hs rfl rfl af uP rfl ak du aj fun b8 w hs=>?_))))));refine .zn zg (.seq (.ae (.z zm (.z (cJ af) (.zn zm (.for (N:=ws.length) (J:=fun k fr w=>fr=[(9,.slice aw ws.length cw),(3,.slice (some ⟨b8,0,none⟩) ws.length ws.length)]∧∃L,(L.length=ws.length∧∀v<ws.length,gi L v=if v<k then -gi ws v else 0)∧St H w (.blk b8 (Is L)::σ)) aj ?_ ?_ ?_))))))
 ·exact .mk ⟨rfl,_,⟨br,fun v hv=>by rw [fy _ _ hv,if_neg aj]⟩,hs⟩
 ·rintro k fr w hk ⟨rfl,L,⟨Ml,Mk⟩,hs⟩;have hx:=bG hk;have Mi:=hb k;refine .block (.ae (.z zm ?_));first|(refine .ixv hs af ak ?_;intro tt o14 iW)|refine .z (zix af ak) ?_
  refine .y hs (zld ai) (.z zg (.zn zg (.region (.z zm (.z zm (.z zm (.z Md ?_)))))));first|(refine .ixv hs af ak ?_;intro PV o20 AW)|refine .z (zix af ak) ?_
  refine .o (.store hs rfl rfl ak fun w hs=>?_);refine .nil (nB (nT (.mk ⟨rfl,_,⟨by rw [List.length_set];exact Ml,fun v hv=>?_⟩,hs⟩)));rw [iT aj];by_cases e:v=k
  ·subst e;rw [if_pos rfl,if_pos aj]
  ·rw [if_neg e,Mk v hv];congr 1;apply propext;omega
 ·rintro fr w ⟨rfl,L,⟨Ml,Mk⟩,hs⟩;obtain rfl:L=Bw ws:=Ez (by simp [Ml,Bw]) (fun k hk=>by rw [Mk k aj,if_pos aj,He]);refine nT (.ae (.z zm (.zn zg (.ret (Fin.bp results102 rfl ?_)))));obtain ⟨H1,g1,g2,hs⟩:=hs.bQ .here;refine ⟨H1,g1,?_,hs⟩;rw [←Ml];exact Row.RI (spare:=[]) (by simpa using g2) _ (Nat.le_refl _) aj
theorem xF{w:World}{v:Value}{s:cN}(hs:St H w σ)(hr:RSy H v s)(Cv:RI H vw ws):
  aaA 52 [v,vw] w fun v w'=>∃H1 lo hi e,HLe H H1∧v= .tuple #[I lo,I hi,I e]∧kz s ws lo hi e∧St H1 w' σ:=by
 obtain ⟨vl,rfl,hr⟩:=hr;refine Cl.o func52 ntmps52 ag2 ?_;refine .ae (.bx hs fun b2 w hs=>?_);refine .z zg (.z zg (.zn zg (.ae (.y hs (zls [_,_] bZ aZ) (.z zm (.o (.call call72 rfl (jU (s:=s) hs ⟨_,rfl,hr⟩ Cv) ?_)))))));rintro _ w ⟨H1,e,pf,aq,rfl,hA,hs,fX,heq⟩;refine .z zm (.z zex (.z zex (.z zg (.zn zg (.seq (.ae (.z zm (.zn gE (.eN rfl (fun ee=>?_) (fun ee=>?_))))))))))
 ·exact .ae (.z zm (.z zg (.z zg (.zn zg (.ret (rT (Fin.VY results52 rfl rfl rfl ⟨H1,_,_,_,aq,rfl,.first ⟨hA,fun _=>rfl,fun h=>(ee h).elim⟩ ee,hs.tail⟩)))))))
 ·refine .skip (nT (.seq (.draw mix rfl hs fun w hs=>?_)));refine .ys 0 rfl hs [_,_] bZ aZ ?_;refine .z 1 rfl zm ?_;refine .E 2 hs ?_;subst ee;obtain ⟨bf,bt,bl,cl,ts,lf,vf,sp,rfl,hF,Gf,bh,ui⟩:=heq rfl;have KG:=(z6 hA.zero.1).2.1;have hbw:∀k,-9223372036854775807≤gi ws k∧gi ws k≤9223372036854775807:=fun k=>by
   simp only [FF] at ui;by_cases hk:k<s.n
   ·have:=oI ws hk;omega
   ·have:gi ws k=0:=by simp [gi,List.getElem?_eq_none (show ws.length≤k by omega)]
    omega
  refine .call call102 rfl (wy hs (Cv.mono aq) (by have:=bh.m1;simp only [cN.n] at KG;omega) hbw) ?_;rintro v21 w ⟨H2,aO,WW,hs⟩;refine .go (.E 3 hs ?_);refine .call call72 rfl (jU (s:=s) hs ⟨_,rfl,hr.mono (aq.trans aO)⟩ WW) ?_;rintro _ w ⟨H3,e2,pg,bP,rfl,VF,hs,hne2,Xt⟩;refine .go (.zw 4 rfl zm ?_);refine .z 5 rfl zex ?_;refine .z 6 rfl zex ?_;refine .z 7 rfl zg ?_;refine .z 8 rfl zg ?_;refine .D hs ?_;refine .seq (.ae (.z zm (.zn gE (.eN rfl (fun jC=>?_) (fun jC=>?_)))))
  ·refine .ae (.z zm (.z zg (.z zg (.zn zg (.ret (rT (Fin.VY results52 rfl rfl rfl ?_)))))));obtain ⟨q1,q2,q3,q4⟩:=Gf.value (by simp [cN.n]) (by have:=bh.m0;have:=bh.m1;simp only [cN.n];omega) bh.da ui;exact ⟨H3,_,_,_,aq.trans (aO.trans bP),rfl,.second ⟨hA,fun h=>(h rfl).elim,fun _=>⟨q1,q3,q4⟩⟩ ⟨VF,fun _=>rfl,fun h=>(jC h).elim⟩ jC,hs.tail⟩
  ·refine .skip (nT (.ae (.z zm ?_)));subst jC;obtain ⟨bf2,bt2,bl2,cl2,ts2,lf2,vl2,sp2,rfl,Uw,Yw,hok2,Wz⟩:=Xt rfl;refine .o (.call call73 rfl (jn hs bh Uw Yw Wz) ?_);rintro _ w ⟨rfl,a1,a2,a3,hs⟩;simp only [BB] at a2 a3;refine .z Md (.z zm (.o (.call call73 rfl (jn hs bh (hF.mono (aO.trans bP)) Gf ui) ?_)));rintro _ w ⟨rfl,c1,c2,c3,hs⟩;exact .z zg (.z zg (.zn zg (.ret (Fin.VY results52 rfl rfl rfl ⟨H3,_,_,_,aq.trans (aO.trans bP),rfl,.ok ⟨hA,fun h=>(h rfl).elim,fun _=>⟨c1,c2,c3⟩⟩ ⟨VF,fun h=>(h rfl).elim,fun _=>⟨a1,by simp only [BB];omega,by simp only [BB];omega⟩⟩,hs.tail⟩))))
theorem qO{w:World}{s:cN}{ts:List Int}(hs:St H w σ)(bh:s.Ok)(hF:Aa H bf s ts lf vl bt bl cl sp)(Gf:qW s.n s.da (rY ws s.n) ts)(ui:bK ws s.n≤FF):
  aaA 195 [Pt bf] w fun v w'=>∃H1 xs,HLe H H1∧RI H1 v xs∧EV s ws xs∧St H1 w' σ:=by
 obtain ⟨N,hN⟩:=Int.eq_ofNat_of_zero_le bh.m0;have VC:=bh.m1;have hn:s.n=N+1:=by simp [cN.n,hN]
 have fk:=Gf.lt;have En:s.da.length=s.cu.length:=by simp [cN.da,eU]
 have NP:=bh.len;have ZM:cellAt H bf 0=some (I (N:Int)):=by have:=hF.f.at 0 (v:=I s.many);rwa [hN] at this
 have oO:=Ib bh.da fk.symm aj;rw [hn] at oO;refine Cl.o func195 ntmps195 ag1 ?_;refine .ae (.zn zg (.seq (.draw mix rfl hs fun w hs=>?_)));refine .zw 0 rfl zm ?_;refine .z 1 rfl znc ?_;refine .z 2 rfl (zfa fM) ?_;refine .z 3 rfl (zfa bT) ?_;refine .y 4 rfl hs ai ?_;refine .z 5 rfl zm ?_;refine .E 6 hs ?_;refine .call call236 rfl (mu hs bh hF aj) ?_;rintro _ w ⟨H1,Df,aq,rfl,oG,hs⟩;refine .go (.E 7 hs ?_);refine .call call208 rfl (kP hs aj oO oG call271) ?_;rintro _ w ⟨H2,bc,bb,st,ov,vo,aO,rfl,Iu,⟨r,Yo,hr⟩,hs⟩;have W3:ov=none:=by
  cases ov with
  |none=>rfl
  |some x=>exact (Yo.none oO aj (by have:=hr br;omega) Gf.fe).elim
 subst W3;obtain ⟨Sf,Dc⟩:=Yo.sol oO aj;have Pk:=Yo.lc;have Fa:=Dc 0 aj;refine .go (.zw 8 rfl zm ?_);refine .z 9 rfl zex ?_;refine .z 10 rfl zex ?_;refine .z 11 rfl zex ?_;refine .z 12 rfl zg ?_;refine .z 13 rfl zg ?_;refine .z 14 rfl zg ?_;refine .D hs ?_;refine .ae (.z zm (.q hs (mN (k:=0) rfl rfl af ak rfl aj) (.y hs (zld ai) (.zn zg (.seq (.ae (.z zm (.z (cJ af) (.zn zm (.for (N:=N+1) (J:=fun k fr w=>fr=[(3,.slice (some ⟨bc,0,none⟩) (N+1) (N+1)),(6,I (gi st.cost 0))]∧∃L,(L.length=N+1∧∀v<N+1,gi L v=if v<k then gi st.cost v - gi st.cost 0 else gi st.cost v)∧St H2 w (.blk bc (Is L)::σ)) aj ?_ ?_ ?_))))))))))
 ·exact .mk ⟨rfl,st.cost,⟨Pk,fun v hv=>by rw [if_neg aj]⟩,hs.sb⟩
 ·rintro k fr w hk ⟨rfl,L,⟨Ml,Mk⟩,hs⟩;have Yp:=Mk k hk;rw [if_neg aj] at Yp;have Mi:=Dc k hk;refine .block (.ae (.z zm (.zn zg (.region (.z zm (.z zm ?_))))));first|(refine .ixv hs af ak ?_;intro LV o30 rH)|refine .z (zix af ak) ?_
  refine .y hs (zld ai) (.z zm (.z iw ?_));first|(refine .ixv hs af ak ?_;intro RK o34 ma)|refine .z (zix af ak) ?_
  refine .o (.store hs rfl rfl ak fun w hs=>?_);refine .nil (nB (nT (.mk ⟨rfl,_,⟨by rw [List.length_set];exact Ml,fun v hv=>?_⟩,hs⟩)));rw [iT aj];by_cases e:v=k
  ·subst e;rw [if_pos rfl,if_pos aj,Yp]
  ·rw [if_neg e,Mk v hv];congr 1;apply propext;omega
 ·rintro fr w ⟨rfl,L,⟨Ml,Mk⟩,hs⟩;refine nT (.ae (.z zm (.zn zg (.ret (Fin.bp results195 rfl ?_)))));obtain ⟨H3,g1,g2,hs⟩:=hs.bQ .here;have hg:∀v<N+1,gi L v=gi st.cost v - gi st.cost 0:=fun v hv=>by rw [Mk v hv,if_pos hv]
  obtain ⟨p1,p2⟩:=Gf.V8 aj bh.da Sf;refine ⟨H3,L,aq.trans (aO.trans g1),?_,⟨aj,by rw [hg 0 aj];omega,fun v hv=>?_,fun x hx=>?_,?_⟩,hs⟩
  ·have:=Row.RI (spare:=[]) (by simpa using g2) (N+1) aj aj
   rwa [Ml] at this
  ·have:=Dc v aj;rw [hg v aj];omega
  ·have h1:=bh.da.2 x hx;have h2:=p2 x hx;rw [hg _ aj,hg _ aj];omega
  ·have h1:=Gf.value aj aj bh.da ui;rw [←p1] at h1;have e:aU (fun v=>gi ws v*gi L v) s.n=aU (fun v=>gi ws v*(gi st.cost v - gi st.cost 0)) s.n:=bC fun v hv=>by rw [hg v aj]
   rw [e];exact h1.1
theorem zV{w:World}{v:Value}{s:cN}(hs:St H w σ)(hr:RSy H v s)(Cv:RI H vw ws):
  aaA 122 [v,vw] w fun v w'=>∃H1 vx xs e,HLe H H1∧v= .tuple #[vx,I e]∧Jg s ws e∧RI H1 vx xs∧(e≠0→xs=[])∧(e=0→EV s ws xs)∧St H1 w' σ:=by
 obtain ⟨vl,rfl,hr⟩:=hr;refine Cl.o func122 ntmps122 ag2 ?_;refine .ae (.bx hs fun b2 w hs=>?_);refine .z zg (.zn zg (.ae (.y hs (zls [_,_] bZ aZ) (.z zm (.o (.call call72 rfl (jU (s:=s) hs ⟨_,rfl,hr⟩ Cv) ?_))))));rintro _ w ⟨H1,e,pf,aq,rfl,hA,hs,fX,heq⟩;refine .z zm (.z zex (.z zex (.z zg (.zn zg (.seq (.ae (.z zm (.zn gE (.eN rfl (fun iL=>?_) (fun iL=>?_))))))))))
 ·exact .ae (.z zm (.z zg (.zn zg (.ret (rT (Fin.mi results122 rfl rfl ⟨H1,_,[],_,aq,rfl,hA,RS.nil H1 1 none 0,fun _=>rfl,fun h=>(iL h).elim,hs.tail⟩))))))
 ·refine .skip (nT (.ae (.z zm ?_)));subst iL;obtain ⟨bf,bt,bl,cl,ts,lf,vl,sp,rfl,hF,Gf,bh,ui⟩:=heq rfl;refine .o (.call call195 rfl (qO hs bh hF Gf ui) ?_);rintro v18 w ⟨H2,xs,aO,hx,hB,hs⟩;exact .z zg (.zn zg (.ret (Fin.mi results122 rfl rfl ⟨H2,_,xs,_,aq.trans aO,rfl,hA,hx,fun h=>(h rfl).elim,fun _=>hB,hs.tail⟩)))
theorem MY{n m:Int}(hm:0<m):(n.tmod m+m).tmod m=n%m:=by
 have h2:=Int.lt_tmod_of_pos n hm;rw [Int.tmod_eq_emod_of_nonneg aj,Int.tmod_def,show n - m*n.tdiv m+m=n+m*(1 - n.tdiv m) by rw [Int.mul_sub];omega,Int.add_mul_emod_self_left]
theorem yP{w:World}{v:Value}{l:List Int}{i n:Int}(hs:St H w σ)(hr:RI H v l)(hi:0≤i)(hn:n≤4611686018427387904):aaA 154 [v,I i,I n] w fun v w'=>v=I (tT l i n)∧St H w' σ:=by
 obtain ⟨a,c,rfl⟩:=RI.shape hr;have hlen:=(RI.len hr).2.2;refine Cl.o func154 ntmps154 ag3 ?_;refine .ae (.zn zg (.seq (.ae (.z zm (.z (cJ af) (.z gO (.z zm (.mW (t':=10) rfl (fun qy=>?_) (fun qy=>?_)))))))))
 ·exact .Fs 2 3 false (.zn zpT (.cT (.ae (.zn zg (.ret (rT (Fin.bp results154 rfl ⟨by rw [show tT l i n=0 by unfold tT;rw [if_pos (.inl (List.length_eq_zero_iff.1 aj))]],hs⟩)))))))
 ·refine .T (.z zm (.T (.z jt (.zn zpF (.bX rfl (fun iX=>?_) (fun iX=>?_))))))
  ·exact .ae (.zn zg (.ret (rT (Fin.bp results154 rfl ⟨by rw [show tT l i n=0 by unfold tT;rw [if_pos (.inr aj)]],hs⟩))))
  ·refine .skip (nT (.ae (.z zm (.z zm (.z zm (.z (cJ af) ?_))))));have ZE:0<l.length:=by omega
   have h1:=Int.tmod_nonneg (a:=i) (l.length:Int) hi;have h2:=Int.tmod_lt_of_pos i (b:=(l.length:Int)) aj;have hx:=bG (l:=l) (i:=(i.tmod (l.length:Int)).toNat) aj;have h3:=Int.tmod_lt_of_pos (gi l (i.tmod (l.length:Int)).toNat) (b:=n) aj;have h4:=Int.lt_tmod_of_pos (gi l (i.tmod (l.length:Int)).toNat) (b:=n) aj;have e:=MY (n:=gi l (i.tmod (l.length:Int)).toNat) (m:=n) aj;refine .z E2 (.ixY hs hr rfl rfl af ak hx aj ?_);intro Gl o19 mB;exact .q hs (aP rfl ai mB) (.z zm (.z E2 (.z zm (.z cz (.z zm (.z E2 (.zn zg (.ret (Fin.bp results154 rfl ⟨by unfold tT;rw [if_neg (fun h=>h.elim (fun h=>by rw [h] at ZE;exact Nat.lt_irrefl _ ZE) (fun h=>by omega)),←e],hs⟩)))))))))
def BW(i j:Nat):Int:=if i=j then 0 else free
theorem P9{n:Nat}(es:List Arc){T:Nat→Nat→Int}(h:∀i j,i<n→j<n→T i j=BW i j):RR n es 0 T:=
 ⟨fun i hi=>by rw [h i i hi hi];simp [BW],fun _ _ h=>by omega,fun i j hi hj IA=> .inl (by rw [h i j hi hj];simp [BW,IA])⟩
set_option maxHeartbeats 4000000 in
theorem yN{w:World}{v:Value}{s:cN}(hs:St H w σ)(hr:RSy H v s)(bh:s.Ok):
  aaA 151 [v] w fun u w'=>∃H1 rs,HLe H H1∧RT H1 u rs∧Sq s.n rs∧nj s.n s.da (gt rs)∧St H1 w' σ:=by
 obtain ⟨ul,rfl,hl⟩:=hr;obtain ⟨al,cl,rfl⟩:=RL.shape hl;have GY:=bh.m0;have Mh:=bh.m1;have hlen:=bh.len;have Zu:=s.Kl;have KT:=bh.n65;have NV:=bh.inn;have Vk:s.many+1=(s.n:Int):=by simp only [cN.n];omega
 generalize hn:s.n=n at Zu KT NV Vk ⊢;refine Cl.o func151 ntmps151 ag1 ?_;refine .ae (.bx hs fun b1 w hs=>?_);refine .zn zg (.ae (.z (zfa bT) ?_));first|refine .q hs (fJ rfl ai (hm:=by repeat (first|exact .here|assumption|exact Mem.row aj aj|refine .there ?_|refine Mem.xJ ?_)) (hv:=by first|rfl|exact fV aj|exact nm dQ aj aj|exact kB nh)) ?_|refine .q hs (aP rfl ai dQ) ?_
 refine .z cz ?_;rw [Vk];refine .zn zg (.ae (.z zm (.o (.Td n hs rfl rfl az typeInfo22 rfl aJ gY aj fun w7 w hs=>?_))));refine .zn zg (.seq (.ae (.z zm (.z (cJ az) (.zn zm (.for (N:=n) (J:=fun k fr w=>fr=[(3,I (n:Int)),(4,.slice (some ⟨w7,0,none⟩) n n),(1,Pt b1)]∧∃bs:List Nat,bs.length=k∧St H w (.blk w7 (bs.map (ptr n)++List.replicate (n - k) (.slice none 0 0))::(nN bs (Jl BW n k)++(.blk b1 [I s.many,.slice al s.cu.length cl]::σ)))) aj ?_ ?_ ?_))))))
 ·exact .mk ⟨rfl,[],rfl,hs⟩
 ·rintro k fr w hk ⟨rfl,bs,Jr,hs⟩;refine .block (.ae (.z zm (.zn zg (.ae (.z zm (.z zm (.z zm (.o (.DS n hs rfl rfl af uP rfl ak du aj fun I4 w hs=>?_)))))))));first|(refine .ixw hs az aJ ?_;intro VP o26 jC)|refine .z (zix az aJ) ?_
  refine .o (.store hs rfl rfl aJ ?_ dr (by simp [Jr];omega) (QG Jr hk));intro w hs;refine .nil (.ae (.z zm (.z zm ?_)));first|(refine .ixw hs az aJ ?_;intro YL o29 nQ)|refine .z (zix az aJ) ?_
  refine .q hs (fJ rfl an (hv:=GJ Jr)) (.z (cJ af) (.zn zm (.for (N:=n) (J:=fun j fr w=>fr=[(5,I (k:Int)),(19,I (k:Int)),(18,I (n:Int)),(3,I (n:Int)),(4,.slice (some ⟨w7,0,none⟩) n n),(1,Pt b1)]∧St H w (.blk I4 (Is ((List.range n).map fun c=>if c<j∧k≠c then free else 0)):: .blk w7 ((bs++[I4]).map (ptr n)++List.replicate (n - (k+1)) (.slice none 0 0))::(nN bs (Jl BW n k)++(.blk b1 [I s.many,.slice al s.cu.length cl]::σ)))) aj ?_ ?_ ?_)))
  ·rw [Fw (fun c=>if c<0∧k≠c then free else 0) n 0 (fun j _=>by simp)] at hs;exact .mk ⟨rfl,hs⟩
  ·rintro j fr w hj ⟨rfl,hs⟩;refine .block (.ae (.z zm (.zn zg (.ae (.z zm (.z zm (.zn gE (.eN rfl (fun wb=>?_) (fun wb=>?_)))))))))
   ·refine .region (.z zm (.z zm ?_));first|(refine .ixw hs az aJ ?_;intro UI o40 vZ)|refine .z (zix az aJ) ?_
    refine .q hs (fJ rfl an (hv:=GJ Jr)) (.z zm ?_);first|(refine .ixv hs af ak ?_;intro VJ o43 N3)|refine .z (zix af ak) ?_
    refine .o (.store hs rfl rfl ak ?_ dr (Hs (by simp;omega)) (EU _ _ _));intro w hs;refine .nil (nB (nT ?_));rw [J0 _ (fun c=>if c<j+1∧k≠c then free else 0) hj 1000000000 (fun c _=>by
     by_cases e:c=j
     ·subst e;rw [if_pos rfl,if_pos ⟨aj,aj⟩]
     ·rw [if_neg e];congr 1;apply propext;omega)] at hs
    exact .mk ⟨rfl,hs⟩
   ·refine .skip (nB (nT ?_));rw [yR (g:=fun c=>if c<j+1∧k≠c then free else 0) (fun c _=>by
     by_cases e:c=j
     ·subst e;rw [if_neg aj,if_neg aj]
     ·congr 1;apply propext;omega)] at hs
    exact .mk ⟨rfl,hs⟩
  ·rintro fr w ⟨rfl,hs⟩;rw [yR (g:=BW k) (fun c hc=>by
    unfold BW;by_cases e:k=c
    ·rw [if_neg aj,if_pos e]
    ·rw [if_pos ⟨hc,e⟩,if_neg e])] at hs
   replace hs:=hs.VX (by rw [Jr,Fm]);rw [←JJ] at hs;exact nB (nT (.mk ⟨rfl,bs++[I4],by simp [Jr],hs⟩))
 ·rintro fr w ⟨rfl,bs,Jr,hs⟩;rw [Nat.sub_self,List.replicate_zero,List.append_nil] at hs;refine nT (.seq (.ae (.z (zfa bS) ?_)));first|refine .q hs (fJ rfl ft (hm:=by repeat (first|exact .here|assumption|exact Mem.row aj aj|refine .there ?_|refine Mem.xJ ?_)) (hv:=by first|rfl|exact fV aj|exact nm dQ aj aj|exact kB nh)) ?_|refine .q hs (aP rfl ft dQ) ?_
  refine .z (cJ aW) (.zn zm (.for (N:=s.cu.length) (J:=fun k fr w=>fr=[(47,.slice al s.cu.length cl),(4,.slice (some ⟨w7,0,none⟩) n n)]∧∃rs,Sq n rs∧RR n s.da k (gt rs)∧St H w (.blk w7 (bs.map (ptr n))::(nN bs rs++(.blk b1 [I s.many,.slice al s.cu.length cl]::σ)))) aj ?_ ?_ ?_))
  ·exact .mk ⟨rfl,_,Qh BW n,P9 s.da (fun i j hi hj=>Qi BW hi hj),hs⟩
  ·rintro k fr w hk ⟨rfl,rs,hq,hB,hs⟩;obtain ⟨x,hx⟩:=nth (l:=s.cu) hk;have Ea:=hq.1;obtain ⟨⟨xa0,xa1⟩,⟨xb0,xb1⟩,xne,xM,-⟩:=bh.lim x (List.mem_of_getElem? hx);have ha:x.A.toNat<n:=by omega
   have hb:x.B.toNat<n:=by omega
   have hga:=mF hx;refine .block (.ae (.ixX (enc:=Lim.c) hs hl rfl rfl aW bU hx rfl ?_));intro b51 o51 XK;refine .q hs (bD (vs:=x.c) rfl mw bU XK) (.o (.alloc hs gZ rfl fun b8 w hs=>?_));refine .o (.aD (vs:=x.c) hs rfl rfl bU fun w hs=>?_);refine .nil (.draw mix rfl hs fun w hs=>?_);refine .zw 0 rfl zm ?_;refine .z 1 rfl (zfa eo) ?_;first|refine .load (i:=2) hs rfl au .none rfl ai ?_ (by repeat (first|exact .here|assumption|exact Mem.row aj aj|refine .there ?_|refine Mem.xJ ?_)) (by first|rfl|exact fV aj|exact nm dQ aj aj|exact kB nh)|refine .r (i:=2) hs rfl au .none (aP rfl ai dQ) ?_
   refine .zw 3 rfl (mN (k:=x.A.toNat) rfl rfl az aJ aj ha) ?_;first|refine .load (i:=4) hs rfl au .none rfl an ?_ (by repeat (first|exact .here|assumption|exact Mem.row aj aj|refine .there ?_|refine Mem.xJ ?_)) (by first|rfl|exact fV aj|exact nm dQ aj aj|exact kB nh)|refine .r (i:=4) hs rfl au .none (aP rfl an dQ) ?_
   refine .zw 5 rfl (zfa eR) ?_;first|refine .load (i:=6) hs rfl au .none rfl ai ?_ (by repeat (first|exact .here|assumption|exact Mem.row aj aj|refine .there ?_|refine Mem.xJ ?_)) (by first|rfl|exact fV aj|exact nm dQ aj aj|exact kB nh)|refine .r (i:=6) hs rfl au .none (aP rfl ai dQ) ?_
   refine .zw 7 rfl zm ?_;refine .z 8 rfl (zfa eo) ?_;first|refine .load (i:=9) hs rfl au .none rfl ai ?_ (by repeat (first|exact .here|assumption|exact Mem.row aj aj|refine .there ?_|refine Mem.xJ ?_)) (by first|rfl|exact fV aj|exact nm dQ aj aj|exact kB nh)|refine .r (i:=9) hs rfl au .none (aP rfl ai dQ) ?_
   refine .zw 10 rfl (mN (k:=x.A.toNat) rfl rfl az aJ aj ha) ?_;first|refine .load (i:=11) hs rfl au .none rfl an ?_ (by repeat (first|exact .here|assumption|exact Mem.row aj aj|refine .there ?_|refine Mem.xJ ?_)) (by first|rfl|exact fV aj|exact nm dQ aj aj|exact kB nh)|refine .r (i:=11) hs rfl au .none (aP rfl an dQ) ?_
   refine .zw 12 rfl (zfa eR) ?_;first|refine .load (i:=13) hs rfl au .none rfl ai ?_ (by repeat (first|exact .here|assumption|exact Mem.row aj aj|refine .there ?_|refine Mem.xJ ?_)) (by first|rfl|exact fV aj|exact nm dQ aj aj|exact kB nh)|refine .r (i:=13) hs rfl au .none (aP rfl ai dQ) ?_
   refine .zw 14 rfl (mN (k:=x.B.toNat) rfl rfl af ak aj hb) ?_;first|refine .load (i:=15) hs rfl au .none rfl ai ?_ (by repeat (first|exact .here|assumption|exact Mem.row aj aj|refine .there ?_|refine Mem.xJ ?_)) (by first|rfl|exact fV aj|exact nm dQ aj aj|exact kB nh)|refine .r (i:=15) hs rfl au .none (aP rfl ai dQ) ?_
   refine .zw 16 rfl (zfa gI) ?_;first|refine .load (i:=17) hs rfl au .none rfl ai ?_ (by repeat (first|exact .here|assumption|exact Mem.row aj aj|refine .there ?_|refine Mem.xJ ?_)) (by first|rfl|exact fV aj|exact nm dQ aj aj|exact kB nh)|refine .r (i:=17) hs rfl au .none (aP rfl ai dQ) ?_
   refine .zw 18 rfl Ju (.zw 19 rfl (mN (k:=x.B.toNat) rfl rfl af ak aj hb) (.ET 20 hs ?_));refine .store hs rfl rfl ak ?_ (.there (.there (Upd.row _ aj aj))) (Hs (by rw [hq.2 _ ha];exact hb)) (EU _ _ _);intro w hs;exact .go (.DT hs (nB (nT (.mk ⟨rfl,_,hq.set ha _,by rw [PN hq ha hb];exact hB.step NV hga,hs.tail⟩))))
  ·rintro fr w ⟨rfl,rs,hq,hB,hs⟩;rw [←eU] at hB;have hI:=hB.go NV Zu;have NY:∀x∈s.da,-20000≤x.c∧x.c≤20000:=fun x hx=>by have:=NV x hx;omega
   refine nT (.seq (.ae (.z zm (.z (cJ az) (.zn zm (.for (N:=n) (J:=fun m fr w=>fr=[(4,.slice (some ⟨w7,0,none⟩) n n)]∧∃rs,Sq n rs∧(m<n→Dg n s.da m (fun _ _=>False) (gt rs))∧(m=n→nj n s.da (gt rs))∧St H w (.blk w7 (bs.map (ptr n))::(nN bs rs++(.blk b1 [I s.many,.slice al s.cu.length cl]::σ)))) aj ?_ ?_ ?_))))))
   ·exact .mk ⟨rfl,rs,hq,fun _=>hI,fun e=>by omega,hs⟩
   ·clear hI hB hq;rintro m fr w hm ⟨rfl,rs,hq,hI,-,hs⟩;replace hI:=hI hm;refine .block (.ae (.z zm (.zn zg (.ae (.z zm (.z (cJ az) (.zn zm (.for (N:=n) (J:=fun i fr w=>fr=[(9,I (m:Int)),(76,I (m:Int)),(75,I (n:Int)),(4,.slice (some ⟨w7,0,none⟩) n n)]∧∃rs,Sq n rs∧Dg n s.da m (fun a _=>a<i) (gt rs)∧St H w (.blk w7 (bs.map (ptr n))::(nN bs rs++(.blk b1 [I s.many,.slice al s.cu.length cl]::σ)))) aj ?_ ?_ ?_))))))))
    ·exact .mk ⟨rfl,rs,hq,hI.skip NY hm (P:=fun _ _=>False) (fun i j h=>by omega) (fun _ _ _ _ h=>h.elim),hs⟩
    ·clear hI hq;rintro i fr w hi ⟨rfl,rs,hq,hI,hs⟩;refine .block (.ae (.z zm (.zn zg (.ae (.z zm (.z (cJ az) (.zn zm (.for (N:=n) (J:=fun k fr w=>fr=[(10,I (i:Int)),(81,I (i:Int)),(80,I (n:Int)),(9,I (m:Int)),(76,I (m:Int)),(75,I (n:Int)),(4,.slice (some ⟨w7,0,none⟩) n n)]∧∃rs,Sq n rs∧Dg n s.da m (fun a b=>a<i∨(a=i∧b<k)) (gt rs)∧St H w (.blk w7 (bs.map (ptr n))::(nN bs rs++(.blk b1 [I s.many,.slice al s.cu.length cl]::σ)))) aj ?_ ?_ ?_))))))))
     ·exact .mk ⟨rfl,rs,hq,hI.skip NY hm (P:=fun _ _=>False) (fun a b h=>by omega) (fun _ _ _ _ h=>h.elim),hs⟩
     ·clear hI hq;rintro k fr w hk ⟨rfl,rs,hq,hI,hs⟩;have Ea:=hq.1;have c1:=hI.cl i m hi hm;have c2:=hI.cl m k hm hk;have u1:=hI.up i m hi hm;have u2:=hI.up m k hm hk;refine .block (.ae (.z zm (.zn zg (.ae (.z zm (.z zm ?_))))));first|(refine .ixw hs az aJ ?_;intro b91 o91 hc91)|refine .z (zix az aJ) ?_
      first|refine .q hs (fJ rfl an (hm:=by repeat (first|exact .here|assumption|exact Mem.row aj aj|refine .there ?_|refine Mem.xJ ?_)) (hv:=by first|rfl|exact fV aj|exact nm dQ aj aj|exact kB nh)) ?_|refine .q hs (aP rfl an dQ) ?_
      refine .z zm ?_;first|(refine .ixv hs af ak ?_;intro b94 o94 hc94)|refine .z (zix af ak) ?_
      first|refine .q hs (fJ rfl ai (hm:=by repeat (first|exact .here|assumption|exact Mem.row aj aj|refine .there ?_|refine Mem.xJ ?_)) (hv:=by first|rfl|exact fV aj|exact nm dQ aj aj|exact kB nh)) ?_|refine .q hs (aP rfl ai dQ) ?_
      refine .z gE (.z zm (.Js (t':=97) rfl (fun N4=>?_) (fun N4=>?_)))
      ·refine .T (.z zm (.T (.z zm (.T ?_))));first|(refine .ixw hs az aJ ?_;intro YU o100 zE)|refine .z (zix az aJ) ?_
       refine .T ?_;first|refine .q hs (fJ rfl an (hm:=by repeat (first|exact .here|assumption|exact Mem.row aj aj|refine .there ?_|refine Mem.xJ ?_)) (hv:=by first|rfl|exact fV aj|exact nm dQ aj aj|exact kB nh)) ?_|refine .q hs (aP rfl an dQ) ?_
       refine .T (.z zm (.T ?_));first|(refine .ixv hs af ak ?_;intro b103 o103 ZX)|refine .z (zix af ak) ?_
       refine .T ?_;first|refine .q hs (fJ rfl ai (hm:=by repeat (first|exact .here|assumption|exact Mem.row aj aj|refine .there ?_|refine Mem.xJ ?_)) (hv:=by first|rfl|exact fV aj|exact nm dQ aj aj|exact kB nh)) ?_|refine .q hs (aP rfl ai dQ) ?_
       refine .T (.z gE (.zn zpT (.eN rfl (fun Ej=>?_) (fun Ej=>?_))))
       ·refine .draw mix rfl hs fun w hs=>?_
        replace u1:=u1 N4;replace u2:=u2 Ej;refine .zw 0 rfl zm ?_;refine .z 1 rfl zm ?_;first|(refine .ixw 2 rfl hs az aJ ?_;intro b109 o109 Py)|refine .z 2 rfl (zix az aJ) ?_
        first|refine .load (i:=3) hs rfl au .none rfl an ?_ (by repeat (first|exact .here|assumption|exact Mem.row aj aj|refine .there ?_|refine Mem.xJ ?_)) (by first|rfl|exact fV aj|exact nm dQ aj aj|exact kB nh)|refine .r (i:=3) hs rfl au .none (aP rfl an dQ) ?_
        refine .zw 4 rfl zm ?_;refine .z 5 rfl zm ?_;refine .z 6 rfl zm ?_;first|(refine .ixw 7 rfl hs az aJ ?_;intro b114 o114 ZV)|refine .z 7 rfl (zix az aJ) ?_
        first|refine .load (i:=8) hs rfl au .none rfl an ?_ (by repeat (first|exact .here|assumption|exact Mem.row aj aj|refine .there ?_|refine Mem.xJ ?_)) (by first|rfl|exact fV aj|exact nm dQ aj aj|exact kB nh)|refine .r (i:=8) hs rfl au .none (aP rfl an dQ) ?_
        refine .zw 9 rfl zm ?_;first|(refine .ixv 10 rfl hs af ak ?_;intro b117 o117 Pw)|refine .z 10 rfl (zix af ak) ?_
        first|refine .load (i:=11) hs rfl au .none rfl ai ?_ (by repeat (first|exact .here|assumption|exact Mem.row aj aj|refine .there ?_|refine Mem.xJ ?_)) (by first|rfl|exact fV aj|exact nm dQ aj aj|exact kB nh)|refine .r (i:=11) hs rfl au .none (aP rfl ai dQ) ?_
        refine .zw 12 rfl zm ?_;refine .z 13 rfl zm ?_;first|(refine .ixw 14 rfl hs az aJ ?_;intro b121 o121 ZU)|refine .z 14 rfl (zix az aJ) ?_
        first|refine .load (i:=15) hs rfl au .none rfl an ?_ (by repeat (first|exact .here|assumption|exact Mem.row aj aj|refine .there ?_|refine Mem.xJ ?_)) (by first|rfl|exact fV aj|exact nm dQ aj aj|exact kB nh)|refine .r (i:=15) hs rfl au .none (aP rfl an dQ) ?_
        refine .zw 16 rfl zm ?_;first|(refine .ixv 17 rfl hs af ak ?_;intro b124 o124 ZT)|refine .z 17 rfl (zix af ak) ?_
        first|refine .load (i:=18) hs rfl au .none rfl ai ?_ (by repeat (first|exact .here|assumption|exact Mem.row aj aj|refine .there ?_|refine Mem.xJ ?_)) (by first|rfl|exact fV aj|exact nm dQ aj aj|exact kB nh)|refine .r (i:=18) hs rfl au .none (aP rfl ai dQ) ?_
        refine .zw 19 rfl zm ?_;refine .z 20 rfl zm ?_;first|(refine .ixw 21 rfl hs az aJ ?_;intro YP o128 Uc)|refine .z 21 rfl (zix az aJ) ?_
        first|refine .load (i:=22) hs rfl au .none rfl an ?_ (by repeat (first|exact .here|assumption|exact Mem.row aj aj|refine .there ?_|refine Mem.xJ ?_)) (by first|rfl|exact fV aj|exact nm dQ aj aj|exact kB nh)|refine .r (i:=22) hs rfl au .none (aP rfl an dQ) ?_
        refine .zw 23 rfl zm ?_;first|(refine .ixv 24 rfl hs af ak ?_;intro b131 o131 ZS)|refine .z 24 rfl (zix af ak) ?_
        first|refine .load (i:=25) hs rfl au .none rfl ai ?_ (by repeat (first|exact .here|assumption|exact Mem.row aj aj|refine .there ?_|refine Mem.xJ ?_)) (by first|rfl|exact fV aj|exact nm dQ aj aj|exact kB nh)|refine .r (i:=25) hs rfl au .none (aP rfl ai dQ) ?_
        refine .zw 26 rfl cz ?_;refine .z 27 rfl Ju ?_;refine .z 28 rfl HM ?_;first|(refine .ixv 29 rfl hs af ak ?_;intro YN o136 ZR)|refine .z 29 rfl (zix af ak) ?_
        refine .ET 30 hs ?_;refine .store hs rfl rfl ak ?_ (.there (Upd.row _ aj aj)) (Hs (by rw [hq.2 _ hi];exact hk)) (EU _ _ _);intro w hs;exact .go (.DT hs (nB (nT (.mk ⟨rfl,_,hq.set hi _,by rw [PN hq hi hk];exact hI.step NY hm hi hk (fun a b h=>by omega) N4 Ej,hs⟩))))
       ·exact .skip (nB (nT (.mk ⟨rfl,rs,hq,hI.skip NY hm (P:=fun a b=>a=i∧b=k) (fun a b h=>by omega) (fun a b _ _ h=>by obtain ⟨rfl,rfl⟩:=h;exact .inr Ej),hs⟩)))
      ·exact .Fs 8 8 true (.zn zpF (.cF (.skip (nB (nT (.mk ⟨rfl,rs,hq,hI.skip NY hm (P:=fun a b=>a=i∧b=k) (fun a b h=>by omega) (fun a b _ _ h=>by obtain ⟨rfl,rfl⟩:=h;exact .inl N4),hs⟩))))))
     ·rintro fr w ⟨rfl,rs,hq,hI,hs⟩;exact nB (nT (.mk ⟨rfl,rs,hq,hI.skip NY hm (P:=fun a b=>a=i∧n≤b) (fun a b h=>by omega) (fun a b _ hb h=>by omega),hs⟩))
    ·rintro fr w ⟨rfl,rs,hq,hI,hs⟩;replace hI:Dg n s.da m (fun _ _=>True) (gt rs):=hI.skip NY hm (P:=fun a _=>n≤a) (fun a b h=>by omega) (fun a b ha _ h=>by omega);exact nB (nT (.mk ⟨rfl,rs,hq,fun h=>hI.next NY h KT,fun h=>hI.done NY h.symm KT,hs⟩))
   ·rintro fr w ⟨rfl,rs,hq,-,hT,hs⟩;replace hT:=hT rfl;refine nT (.ae (.z zm (.zn zg (.ret (Fin.bp results151 rfl ?_)))));obtain ⟨H1,g1,g2,hs⟩:=B0 hq Jr aj hs;exact ⟨H1,rs,g1,g2,hq,hT,hs.tail⟩
theorem xm{w:World}{vm:Value}{rs:List (List Int)}{n:Nat}(hs:St H w σ)(hM:RT H vm rs)(hq:Sq n rs)(hn:n≤1000):
  aaA 152 [vm] w fun v w'=>∃b,v= .bool b∧(b=true↔∀i,i<n→¬gt rs i i<0)∧St H w' σ:=by
 obtain ⟨a,c,rfl⟩:=hM.shape;have Ea:=hq.1;refine Cl.o func152 ntmps152 ag1 ?_;refine .ae (.zn zg (.seq (.ae (.z zm (.z (cJ az) (.zn zm (.for (N:=rs.length) (J:=fun k fr w=>fr=[(0,.slice a rs.length c)]∧(∀i,i<k→¬gt rs i i<0)∧St H w σ) aj ?_ ?_ ?_)))))))
 ·exact .mk ⟨rfl,fun i h=>by omega,hs⟩
 ·rintro k fr w hk ⟨rfl,h0,hs⟩;refine .block (.ae (.z zm (.zn zg (.ae (.z zm (.z zm (.ixT hs hM rfl rfl az aJ hk rfl ?_)))))));intro EJ o11 a11 c11 ta Yk;refine .q hs (aP rfl an ta) (.z zm (.ixY hs Yk rfl rfl af ak (bG (l:=gr rs k) (i:=k) (by rw [hq.2 k aj];omega)) rfl ?_));intro tt o14 iW;refine .q hs (aP rfl ai iW) (.zn jt (.bX rfl (fun ee=>?_) (fun ee=>?_)))
  ·exact .ae (.zn zg (.ret (rB (rT (rB (rT (Fin.bp results152 rfl ⟨false,rfl,⟨fun h=>(by cases h),fun h=>(h k aj ee).elim⟩,hs⟩)))))))
  ·refine .skip (nB (nT ?_));exact .mk ⟨rfl,fun i hi=>by
    by_cases e:i=k
    ·subst e;exact ee
    ·exact h0 i aj,hs⟩
 ·rintro fr w ⟨rfl,h0,hs⟩;exact nT (.ae (.zn zg (.ret (Fin.bp results152 rfl ⟨true,rfl,⟨fun _ i hi=>h0 i aj,fun _=>rfl⟩,hs⟩))))
theorem ke{p:Prop}[Decidable p]:(!decide p)=true↔¬p:=by simp
theorem jf{p:Prop}[Decidable p]:(!decide p)=false↔p:=by simp
theorem fE{w:World}(hs:St H w σ):aaA 228 [I a0,I a1,I a2] w fun v w'=>v= .bool (decide (a1≤a0∧a0≤a2))∧St H w' σ:=by
 refine Cl.o func228 ntmps228 ag3 ?_;refine .ae (.zn zg (.ae (.z zm (.z zm (.z rl (.z zm (.mW (t':=10) rfl (fun qy=>?_) (fun qy=>?_))))))))
 ·exact .T (.z zm (.T (.z zm (.T (.z rl (.z zpT (.zn zg (.ret (Fin.bp results228 rfl ⟨by simp [*],hs.out⟩)))))))))
 ·exact .Fs 3 3 true (.z zpF (.zn zg (.ret (Fin.bp results228 rfl ⟨by simp [*],hs.out⟩))))
theorem qh{w:World}{many:Int}{l:Lim}(hs:St H w σ):aaA 229 [I many,.agg l.c.toArray] w fun v w'=>v=I (if decide (0≤many∧many≤64)&&l.ok many then 0 else 20)∧St H w' σ:=by
 refine Cl.o func229 ntmps229 ag2 ?_;refine .ae (.bx hs fun b3 w hs=>?_);refine .zn zg (.seq (.ae (.z zm (.o (.call call228 rfl (fE hs) ?_)))));rintro _ w ⟨rfl,hs⟩;refine .z im (.z zm (.bif (t':=8) rfl (fun PB=>?_) (fun PB=>?_)))
 ·refine .Fs 5 3 false (.z zpT (.z zm (.Fs 5 10 false (.z zpT (.z zm (.Fs 5 17 false (.z zpT (.z zm (.Fs 4 24 false (.z zpT (.z zm (.Fs 4 30 false (.zn zpT (.cT (.ae (.zn zg (.ret (rT (Fin.bp Dp rfl ?_)))))))))))))))))))
  (try simp only [ke] at*)
  (try simp only [jf] at*)
  refine ⟨congrArg I ?_,hs.out⟩;unfold Lim.ok;first
   |(rw [if_pos (by simp only [Bool.and_eq_true,decide_eq_true_eq];omega)];done)
   |(rw [if_neg (by simp only [Bool.and_eq_true,decide_eq_true_eq];omega)];done)
 ·refine .T (.z (zfa eo) (.T (.y hs (zld ai) (.T (.z zm (.T (.o (.call call228 rfl (fE hs) ?_))))))));rintro _ w ⟨rfl,hs⟩;refine .T (.z im (.z zpF (.z zm (.bif (t':=15) rfl (fun Em=>?_) (fun Em=>?_)))))
  ·refine .Fs 5 10 false (.z zpT (.z zm (.Fs 5 17 false (.z zpT (.z zm (.Fs 4 24 false (.z zpT (.z zm (.Fs 4 30 false (.zn zpT (.cT (.ae (.zn zg (.ret (rT (Fin.bp Dp rfl ?_))))))))))))))))
   (try simp only [ke] at*)
   (try simp only [jf] at*)
   refine ⟨congrArg I ?_,hs.out⟩;unfold Lim.ok;first
    |(rw [if_pos (by simp only [Bool.and_eq_true,decide_eq_true_eq];omega)];done)
    |(rw [if_neg (by simp only [Bool.and_eq_true,decide_eq_true_eq];omega)];done)
  ·refine .T (.z (zfa eR) (.T (.y hs (zld ai) (.T (.z zm (.T (.o (.call call228 rfl (fE hs) ?_))))))));rintro _ w ⟨rfl,hs⟩;refine .T (.z im (.z zpF (.z zm (.bif (t':=22) rfl (fun Rp=>?_) (fun Rp=>?_)))))
   ·refine .Fs 5 17 false (.z zpT (.z zm (.Fs 4 24 false (.z zpT (.z zm (.Fs 4 30 false (.zn zpT (.cT (.ae (.zn zg (.ret (rT (Fin.bp Dp rfl ?_)))))))))))))
    (try simp only [ke] at*)
    (try simp only [jf] at*)
    refine ⟨congrArg I ?_,hs.out⟩;unfold Lim.ok;first
     |(rw [if_pos (by simp only [Bool.and_eq_true,decide_eq_true_eq];omega)];done)
     |(rw [if_neg (by simp only [Bool.and_eq_true,decide_eq_true_eq];omega)];done)
   ·refine .T (.z (zfa eo) (.T (.y hs (zld ai) (.T (.z (zfa eR) (.T (.y hs (zld ai) (.T (.z gO (.z zpF (.z zm (.mW (t':=29) rfl (fun X2=>?_) (fun X2=>?_)))))))))))))
    ·refine .Fs 4 24 false (.z zpT (.z zm (.Fs 4 30 false (.zn zpT (.cT (.ae (.zn zg (.ret (rT (Fin.bp Dp rfl ?_))))))))))
     (try simp only [ke] at*)
     (try simp only [jf] at*)
     refine ⟨congrArg I ?_,hs.out⟩;unfold Lim.ok;first
      |(rw [if_pos (by simp only [Bool.and_eq_true,decide_eq_true_eq];omega)];done)
      |(rw [if_neg (by simp only [Bool.and_eq_true,decide_eq_true_eq];omega)];done)
    ·refine .T (.z (zfa gI) (.T (.y hs (zld ai) (.T (.o (.call call228 rfl (fE hs) ?_))))));rintro _ w ⟨rfl,hs⟩;refine .T (.z im (.z zpF (.z zm (.bif (t':=35) rfl (fun F6=>?_) (fun F6=>?_)))))
     ·refine .Fs 4 30 false (.zn zpT (.cT (.ae (.zn zg (.ret (rT (Fin.bp Dp rfl ?_)))))))
      (try simp only [ke] at*)
      (try simp only [jf] at*)
      refine ⟨congrArg I ?_,hs.out⟩;unfold Lim.ok;first
       |(rw [if_pos (by simp only [Bool.and_eq_true,decide_eq_true_eq];omega)];done)
       |(rw [if_neg (by simp only [Bool.and_eq_true,decide_eq_true_eq];omega)];done)
     ·refine .T (.z (zfa lE) (.T (.y hs (zld ai) (.T (.o (.call call228 rfl (fE hs) ?_))))));rintro _ w ⟨rfl,hs⟩;refine .T (.z im (.zn zpF (.cond rfl (fun vZ=>?_) (fun vZ=>?_))))
      ·refine .ae (.zn zg (.ret (rT (Fin.bp Dp rfl ?_))))
       (try simp only [ke] at*)
       (try simp only [jf] at*)
       refine ⟨congrArg I ?_,hs.out⟩;unfold Lim.ok;first
        |(rw [if_pos (by simp only [Bool.and_eq_true,decide_eq_true_eq];omega)];done)
        |(rw [if_neg (by simp only [Bool.and_eq_true,decide_eq_true_eq];omega)];done)
      ·refine .skip (nT (.ae (.zn zg (.ret (Fin.bp Dp rfl ?_)))))
       (try simp only [ke] at*)
       (try simp only [jf] at*)
       refine ⟨congrArg I ?_,hs.out⟩;unfold Lim.ok;first
        |(rw [if_pos (by simp only [Bool.and_eq_true,decide_eq_true_eq];omega)];done)
        |(rw [if_neg (by simp only [Bool.and_eq_true,decide_eq_true_eq];omega)];done)
theorem xn{w:World}{v:Value}{s:cN}(hs:St H w σ)(hr:RSy H v s):aaA 150 [v] w fun v w'=>v=I s.check∧St H w' σ:=by
 obtain ⟨u,rfl,hr⟩:=hr;obtain ⟨a,c,rfl⟩:=RL.shape hr;have hlen:=(RS.len (RS.VZ hr (Nat.le_refl _) (wx:=s.cu.length))).2.2;refine Cl.o func150 ntmps150 ag1 ?_;refine .ae (.bx hs fun b1 w hs=>?_);refine .zn zg (.seq (.ae (.z (zfa bT) (.y hs (zld ai) (.o (.call call228 rfl (fE hs) ?_))))));rintro _ w ⟨rfl,hs⟩;refine .zn im (.cond rfl (fun Db=>?_) (fun Db=>?_))
 ·exact .ae (.zn zg (.ret (rT (Fin.bp results150 rfl ⟨congrArg I (by unfold cN.check;rw [if_pos (by simp at Db;omega)]),hs.out⟩))))
 ·refine .skip (nT (.seq (.ae (.z (zfa bS) (.y hs (zld ft) (.z (cJ aW) (.zn q5 (.bX rfl (fun gS=>?_) (fun gS=>?_)))))))))
  ·exact .ae (.zn zg (.ret (rT (Fin.bp results150 rfl ⟨congrArg I (by unfold cN.check;rw [if_neg (by simpa using Db),if_pos aj]),hs.out⟩))))
  ·refine .skip (nT (.seq (.ae (.z (zfa bS) (.y hs (zld ft) (.z (cJ aW) (.zn zm (.for (N:=s.cu.length) (J:=fun k fr w=>fr=[(14,.slice a s.cu.length c),(1,Pt b1)]∧(∀j<k,∀l,s.cu[j]? =some l→l.ok s.many=true)∧St H w (.blk b1 [I s.many,.slice a s.cu.length c]::σ)) aj ?_ ?_ ?_))))))))
   ·exact .mk ⟨rfl,fun j hj=>by omega,hs⟩
   ·rintro k fr w hk ⟨rfl,fF,hs⟩;obtain ⟨x,hx⟩:=nth (l:=s.cu) hk;refine .block (.ae (.ixX (enc:=Lim.c) hs hr rfl rfl aW bU hx rfl ?_));intro uT o18 kI;refine .q hs (bD (vs:=x.c) rfl mw bU kI) (.o (.alloc hs gZ rfl fun b4 w hs=>?_));refine .o (.aD (vs:=x.c) hs rfl rfl bU fun w hs=>?_);refine .nil (.ae (.z (zfa bT) (.y hs (zld ai) (.q hs (jA (vs:=x.c) rfl mw bU) (.o (.call call229 rfl (qh hs) ?_))))));rintro _ w ⟨rfl,hs⟩;have Iw:0≤s.many∧s.many≤64:=by simpa using Db
    rw [show (decide (0≤s.many∧s.many≤64)&&x.ok s.many)=x.ok s.many by rw [decide_eq_true Iw];rfl];refine .zn gE (.eN rfl (fun rI=>?_) (fun rI=>?_))
    ·refine .ae (.zn zg (.ret (rB (rT (rB (rT (Fin.bp results150 rfl ?_)))))));exact ⟨congrArg I (by
      have C7:x.ok s.many=false:=by cases e:x.ok s.many with|false=>rfl|true=>rw [e] at rI;simp at rI
      unfold cN.check;rw [if_neg (by simpa using Db),if_neg aj,if_pos (List.any_eq_true.2 ⟨x,List.mem_of_getElem? hx,by rw [C7];rfl⟩)]),hs.out⟩
    ·exact .skip (nB (nT (.mk ⟨rfl,gv fF hx (by cases e:x.ok s.many with|true=>rfl|false=>rw [e] at rI;simp at rI),hs.tail⟩)))
   ·rintro fr w ⟨rfl,fF,hs⟩;refine nT (.ae (.zn zg (.ret (Fin.bp results150 rfl ?_))));exact ⟨congrArg I (by
     have oR:(s.cu.any fun l=> !l.ok s.many)=false:=by
      simp only [List.any_eq_false,Bool.not_eq_true',Bool.not_eq_false];intro l hl;obtain ⟨j,hj⟩:=List.getElem?_of_mem hl;exact fF j (List.getElem?_eq_some_iff.1 hj).1 l hj
     unfold cN.check;rw [if_neg (by simpa using Db),if_neg aj,oR];rfl),hs.out⟩
theorem pn{w:World}{va:Value}{A B:List Int}(hs:St H w σ)(hA:RI H va A)(hB:RI H vb B):
  aaA 233 [va,vb] w fun v w'=>v= .bool (decide (A=B))∧St H w' σ:=by
 obtain ⟨aA,cA,rfl⟩:=RI.shape hA;obtain ⟨aB,cB,rfl⟩:=RI.shape hB;have hlA:=(RI.len hA).2.2;have hlB:=(RI.len hB).2.2;refine Cl.o func233 ntmps233 ag2 ?_;refine .ae (.zn zg (.seq (.ae (.z zm (.z (cJ af) (.z zm (.z (cJ af) (.zn gE (.eN rfl (fun pR=>?_) (fun pR=>?_))))))))))
 ·exact .ae (.zn zg (.ret (rT (Fin.bp results233 rfl ⟨by rw [decide_eq_false (by intro h;subst h;exact pR rfl)],hs⟩))))
 ·refine .skip (nT (.seq (.ae (.z zm (.z (cJ af) (.zn zm (.for (N:=A.length) (J:=fun k fr w=>fr=[(0,.slice aA A.length cA),(1,.slice aB B.length cB)]∧(∀j<k,A[j]? =B[j]?)∧St H w σ) aj ?_ ?_ ?_)))))))
  ·exact .mk ⟨rfl,fun j h=>by omega,hs⟩
  ·rintro k fr w hk ⟨rfl,h0,hs⟩;obtain ⟨xA,Wo⟩:=nth hk;obtain ⟨xB,U9⟩:=nth (l:=B) (k:=k) aj;refine .block (.ae (.z zm (.zn zg (.seq (.draw mix rfl hs fun w hs=>?_)))));refine .zw 0 rfl zm ?_;refine .z 1 rfl zm ?_;refine .ixX (enc:=fun x=>[I x]) (i:=2) hs rfl au .none hA rfl rfl af ak Wo rfl ?_;intro uT o18 kI;replace kI:=bE.one kI;refine .r (i:=3) hs rfl au .none (aP rfl ai kI) ?_;refine .zw 4 rfl zm ?_;refine .z 5 rfl zm ?_;refine .ixX (enc:=fun x=>[I x]) (i:=6) hs rfl au .none hB rfl rfl af ak U9 rfl ?_;intro RM o22 jv;replace jv:=bE.one jv;refine .r (i:=7) hs rfl au .none (aP rfl ai jv) ?_;refine .zw 8 rfl gE ?_;refine .D hs ?_;refine (.eN rfl (fun rI=>?_) (fun rI=>?_))
   ·exact .ae (.zn zg (.ret (rB (rT (rB (rT (Fin.bp results233 rfl ⟨by rw [decide_eq_false (by intro h;subst h;rw [Wo] at U9;cases U9;exact rI rfl)],hs⟩)))))))
   ·refine .skip (nB (nT ?_));exact .mk ⟨rfl,fun j hj=>by
     by_cases e:j=k
     ·subst e;rw [Wo,U9,rI]
     ·exact h0 j aj,hs⟩
  ·rintro fr w ⟨rfl,h0,hs⟩;refine nT (.ae (.zn zg (.ret (Fin.bp results233 rfl ?_))));exact ⟨by rw [decide_eq_true (List.ext_getElem? fun j=>by
    by_cases e:j<A.length
    ·exact h0 j e
    ·rw [List.getElem?_eq_none aj,List.getElem?_eq_none aj])],hs⟩
theorem nt{w:World}{v:Value}{l:List Int}(hs:St H w (en::σ))(ho:bM 1 v (Is l) en)(hl:l.length≤1000000):
  aaA 137 [v] w fun _ w'=>∃iY,bM 1 v (Is l.reverse) iY∧St H w' (iY::σ):=by
 rcases ho with ⟨a,rfl,h2,rfl⟩|⟨b,len,cap,sp,rfl,rfl,h2,h3,h4⟩
 ·obtain rfl:l=[]:=by
   have:=congrArg List.length h2;exact List.length_eq_zero_iff.1 (by simpa using this)
  have hs:=hs.tail;refine Cl.o func137 ntmps137 ag1 ?_;refine .ae (.z zm (.z (cJ af) (.z iw (.z zg (.zn zg (.block (.loop (fun _:Unit=>⟨28,[],[(2,I 0),(3,I (-1))]⟩) (fun _ w=>St H w σ) (fun _=>0) () bk hs ?_)))))));rintro _ w hs;refine .seq (.ae (.z zm (.z zm (.zn jt (.bX rfl (fun nP=>?_) (fun nP=>?_))))))
  ·omega
  ·exact .exit (xT (xT (xB (Fin.yg results137 ⟨.nul,.nil 1 a,hs.nul⟩))))
 obtain rfl:len=l.length:=by simpa using h2.symm
 refine Cl.o func137 ntmps137 ag1 ?_;refine .ae (.z zm (.z (cJ af) (.z iw (.z zg (.zn zg (.block (.loop (fun p:Nat×List Int=>⟨28,[],[(2,I p.1),(3,I ((l.length:Int) - 1 - p.1)),(0,.slice (some ⟨b,0,none⟩) l.length cap)]⟩) (fun p w=>(2*p.1≤l.length+1∧qU l p.2 p.1)∧St H w (.blk b (Is p.2++sp)::σ)) (fun p=>l.length - p.1) (0,l) (.cons rfl (.dP rfl br (.cons rfl (.nil rfl rfl)))) ⟨⟨br,.start l⟩,hs⟩ ?_)))))));rintro ⟨i,L⟩ w ⟨⟨h5,h6⟩,hs⟩;dsimp only at h5 h6 hs ⊢;have hL:=h6.1;refine .seq (.ae (.z zm (.z zm (.zn jt (.bX rfl (fun nP=>?_) (fun nP=>?_))))))
 ·refine .skip (nT (.seq (.block (.draw mix rfl hs fun w hs=>?_))));refine .zw 0 rfl zm ?_;refine .z 1 rfl zm ?_;refine .z 2 rfl zm ?_;refine .z 3 rfl zm ?_;refine .z 4 rfl zm ?_;refine .z 5 rfl zm ?_;refine .zw 6 rfl (mN (k:=l.length - 1 - i) rfl rfl af ak aj aj) (.load (i:=7) hs rfl au .none rfl ai ?_ (hv:=gD aj sp));refine .zw 8 rfl zm ?_;refine .z 9 rfl zm ?_;first|(refine .ixv 10 rfl hs af ak ?_;intro Hv o24 rI)|refine .z 10 rfl (zix af ak) ?_
  refine .load (i:=11) hs rfl au .none rfl ai ?_ (hv:=gD aj sp);first|(refine .ixv 12 rfl hs af ak ?_;intro VP o26 jC)|refine .z 12 rfl (zix af ak) ?_
  refine .E 13 hs ?_;refine .store hs rfl rfl ak ?_ dr (by simp;omega) (m8 aj sp _);intro w hs;refine .go (.zw 14 rfl (mN (k:=l.length - 1 - i) rfl rfl af ak aj aj) (.E 15 hs ?_));refine .store hs rfl rfl ak ?_ dr (by simp;omega) (m8 (by simp;omega) sp _);intro w hs;exact .go (.D hs (nB (nT (.region (.z zm (.z cz (.z zm (.z iw (.z zg (.zn zg (nT ⟨(i+1,_),.cons rfl (.dP rfl (by push_cast;omega) (.cons rfl (.nil rfl rfl))),⟨⟨by dsimp only;omega,h6.step aj⟩,hs⟩,by dsimp only;omega⟩)))))))))))
 ·refine .exit (xT (xT (xB ?_)));rw [h6.done aj] at hs;exact Fin.yg results137 ⟨_,.inr ⟨b,l.length,cap,sp,rfl,rfl,br,by rw [←h3];simp,h4⟩,hs⟩
inductive SC(s:cN)(xs:List Int):Int→Prop
 |bad (h:s.check≠0) (h1:xs=[]):SC s xs s.check
 |sound (h:s.Ok) (h1:s.Sound) (h2:xs=[]):SC s xs 0
 |chain {st:BS} {x:Arc} {z k:Nat} (h:s.Ok) (h1:¬s.Sound) (h2:UN s.n s.da st (some x)) (h3:z=sR st.by_ x.t (s.n+1)) (h4:1≤k) (h5:k≤s.n) (h6:sR st.by_ z k=z) (h7:xs=(Cu st.by_ z k).reverse):SC s xs 0
theorem SC.JR{s:cN}(h:SC s xs 0):xs=[]↔s.Sound:=by
 generalize hz:(0:Int)=y at h
 cases h with
 |bad h=>exact (h hz.symm).elim
 |sound _ h1 h2=>exact ⟨fun _=>h1,fun _=>h2⟩
 | @chain st x z k _ h1 _ _ h4 _ _ h7=>exact ⟨fun h=>by
   have:=congrArg List.length (h7.symm.trans h);rw [List.length_reverse,qt] at this;simp at this;omega,fun h=>(h1 h).elim⟩
set_option maxHeartbeats 4000000 in
theorem xG{w:World}{v:Value}{s:cN}(hs:St H w σ)(hr:RSy H v s):
  aaA 178 [v] w fun u w'=>∃H1 vx xs e,HLe H H1∧u= .tuple #[vx,I e]∧RI H1 vx xs∧SC s xs e∧St H1 w' σ:=by
 obtain ⟨u,rfl,hr⟩:=hr;obtain ⟨al,cl,rfl⟩:=RL.shape hr;refine Cl.o func178 ntmps178 ag1 ?_;refine .ae (.bx hs fun b1 w hs=>?_);refine .z zg (.zn zg (.seq (.ae (.y hs (zls [_,_] bZ aZ) (.o (.call call113 rfl (jV (s:=s) hs ⟨_,rfl,hr⟩) ?_))))));rintro _ w ⟨rfl,hs⟩;refine .zn zg (.ae (.z zm (.zn gE (.eN rfl (fun iW=>?_) (fun iW=>?_)))))
 ·exact .ae (.z zm (.z zg (.zn zg (.ret (rT (Fin.mi results178 rfl rfl ⟨H,_,[],_,HLe.refl H,rfl,RS.nil H 1 none 0,.bad iW rfl,hs.out⟩))))))
 ·refine .skip (nT (.seq (.draw mix rfl hs fun w hs=>?_)));refine .zw 0 rfl (zfa bT) ?_;refine .y 1 rfl hs ai ?_;refine .ys 2 rfl hs [_,_] bZ aZ ?_;refine .E 3 hs ?_;have bh:s.Ok:=s.dt.1 (by simpa using iW);have oO:=bh.da;have hn:s.n=s.many.toNat+1:=rfl;have GY:=bh.m0;have Mh:=bh.m1;refine .call call209 rfl (mg (s:=s) hs bh ⟨_,rfl,hr⟩) ?_;rintro _ w ⟨H1,jx,aq,rfl,oG,hs⟩;refine .go (.E 4 hs ?_);have Ph:=kP (N:=s.many.toNat) hs aj (by rw [←hn];exact oO) oG call242;rw [Int.toNat_of_nonneg GY] at Ph;refine .call call208 rfl Ph ?_;rintro _ w ⟨H2,bc,bb,st,ov,vo,aO,rfl,Iu,Sa,hs⟩;obtain ⟨a',rfl,PC⟩:=Iu.ptr;refine .go (.zw 5 rfl zm ?_);refine .z 6 rfl zex ?_;refine .z 7 rfl zex ?_;refine .z 8 rfl zex ?_;refine .z 9 rfl zg ?_;refine .z 10 rfl zg ?_;refine .z 11 rfl zg ?_;refine .D hs ?_;refine .seq (.ae (.z zm (.q hs (DM rfl rfl runUnderlying297) (.nil (.cond rfl (fun jC=>?_) (fun jC=>?_))))))
  ·refine .ae (.z zg (.zn zg (.ret (rT (Fin.mi results178 rfl rfl ?_)))));exact ⟨H2,_,[],0,aq.trans aO,rfl,RS.nil H2 1 none 0,.sound bh (by
    obtain ⟨r,Mj,Cw⟩:=Sa
    cases ov with
    |none=>exact ⟨_,(Mj.sol (by rw [←hn];exact oO) aj).1⟩
    |some x=>rw [PC] at jC;cases jC) rfl,hs.out⟩
  ·refine .skip (nT (.ae (.z zm ?_)));obtain ⟨x,rfl⟩:=OvR.yes PC jC;obtain ⟨b3,e3,qu⟩:=Iu;cases e3
   have Ty:cellAt H2 b3 1=some (I x.t):=qu.at 1;have Vk:s.many+2=((s.many.toNat+2:Nat):Int):=by omega
   have W6:¬s.Sound:=by
    obtain ⟨r,Mj,Cw⟩:=Sa;exact Mj.none (by rw [←hn];exact oO) aj (by have:=Cw br;omega)
   obtain ⟨Jo,WT,O5⟩:st.by_.length=s.many.toNat+1∧(∀v<s.many.toNat+1,(ga st.by_ v).f<s.many.toNat+1)∧x.t<s.many.toNat+1:=by
    obtain ⟨r,Mj,Cw⟩:=Sa;exact ⟨Mj.lb,fun v hv=>(Mj.rg v hv).1,(oO.2 x (Mj.ovm x rfl)).2.1⟩
   have Jn:=fun k=>Ce WT O5 k
   refine .z znc (.z (zfa df) (.q hs (aP rfl ai Ty) (.zn zg (.seq (.ae (.z (zfa bT) (.y hs (zld ai) (.z cz ?_))))))));rw [Vk];refine .zn zm (.for (N:=s.many.toNat+2) (J:=fun k fr w=>fr=[(8,I (sR st.by_ x.t k)),(6,.slice (some ⟨bb,0,none⟩) (s.many.toNat+1) (s.many.toNat+1))]∧St H2 w (.blk bc (Is st.cost):: .blk bb (kT st.by_):: .blk b1 [I s.many,.slice al s.cu.length cl]::σ)) aj ?_ ?_ ?_)
   ·exact .mk ⟨rfl,hs⟩
   ·rintro k fr w hk ⟨rfl,hs⟩;refine .block (.region (.z zm (.z zm (.q hs (Bu (k:=sR st.by_ x.t k) rfl rfl aC aR rfl (Jn k)) (.z (zfa cZ) (.q hs (fJ rfl ai (.there .here) (uO (j:=0) (by rw [Jo];exact Jn k) e9)) ?_))))));exact .zn zg (nB (nT (.mk ⟨rfl,hs.out⟩)))
   ·rintro fr w ⟨rfl,hs⟩;obtain ⟨pd,TC,Pg,Zs⟩:=Ik WT O5 (m:=s.many.toNat+2) aj;have Wl:=Jn (s.many.toNat+2);generalize hz:sR st.by_ x.t (s.many.toNat+2)=z at Zs Wl ⊢;have O4:=fun k=>Ce WT Wl k
    refine nT (.ae (.zn zg (.seq (.ae (.z zm (.zn zg (.block ?_)))))));refine .loop (fun p:Nat×Value=>⟨62,[],[(9,p.2),(8,I (sR st.by_ z p.1)),(10,I z),(6,.slice (some ⟨bb,0,none⟩) (s.many.toNat+1) (s.many.toNat+1))]⟩)
     (fun p w=>p.1<pd∧∃en,bM 1 p.2 (Is (Cu st.by_ z p.1)) en∧St H2 w (en:: .blk bc (Is st.cost):: .blk bb (kT st.by_):: .blk b1 [I s.many,.slice al s.cu.length cl]::σ))
     (fun p=>pd - p.1) (0,.slice none 0 0) bk
     ⟨aj,_,.nil 1 none,hs.nul⟩ ?_
    rintro ⟨k,v9⟩ w ⟨hk,en,hO,hs⟩;dsimp only at hk hO ⊢;refine .block (.ae (.z zm (.z zm (.z zm (.q hs (Bu (k:=sR st.by_ z k) rfl rfl aC aR rfl (O4 k)) (.z (zfa dR) (.q hs (fJ rfl ai (.there (.there .here)) (uO (j:=3) (by rw [Jo];exact O4 k) e9)) ?_)))))));refine .o (.buildSlice (cells:=[_]) hs bJ rfl rfl fun YK w hs=>?_);refine .o (.append (ys:=[I (ga st.by_ (sR st.by_ z k)).l]) hs bO rfl rfl hO (.own .here rfl rfl) (by simp [Value.oneCell']) (fun l' h=>by simp [Cu] at h;omega) ?_);intro v50 en50 w eh hs;refine .zn zg (.ae (.z zm (.z zm (.q hs (Bu (k:=sR st.by_ z k) rfl rfl aC aR rfl (O4 k)) (.z (zfa cZ) (.q hs (fJ rfl ai (by repeat (first|exact .here|refine .there ?_)) (uO (j:=0) (by rw [Jo];exact O4 k) e9)) ?_))))));refine .zn zg (.ae (.z zm (.z zm (.zn gO (.bX rfl (fun AS=>?_) (fun AS=>?_))))))
    ·refine .exit (xN (xT (xB (nT (.ae (.z zm ?_))))));have ld:bM 1 v50 (Is (Cu st.by_ z (k+1))) en50:=by rw [BA];simpa [Is] using eh
     have hkz:sR st.by_ z (k+1)=z:=by
      have h3:((ga st.by_ (sR st.by_ z k)).f:Int)=z:=by simpa using AS
      show (ga st.by_ (sR st.by_ z k)).f=z;omega
     refine .o (.call call137 rfl (nt hs ld (by rw [qt];omega)) ?_);rintro _ w ⟨iY,Aj,hs⟩;refine .nil (.ae (.z zm (.z zg (.zn zg (.ret (Fin.mi results178 rfl rfl ?_))))));obtain ⟨H3,bP,hRI,hs⟩:=bM.ck Aj (by rw [List.length_reverse,qt];omega) hs .here;exact ⟨H3,_,_,0,aq.trans (aO.trans bP),rfl,hRI,.chain bh W6 (by rw [hn];exact Sa) (by rw [hn];exact hz.symm) aj aj hkz rfl,hs.sb⟩
    ·refine .skip (nB (nT ?_));exact ⟨(k+1,v50),bk,⟨by
      dsimp only;have:k+1≠pd:=fun e=>AS (congrArg (Nat.cast:Nat→Int) (show sR st.by_ z (k+1)=z by rw [e];exact Zs))
      omega,en50,by rw [BA];simpa [Is] using eh,hs.sb⟩,by dsimp only;omega⟩
structure L6(s:cN)(x:List Int):Prop where
 len:x.length=s.n
 zero:gi x 0=0
 free:∀v<s.n,-1000000000≤gi x v∧gi x v≤1000000000
 De:ja s.da (gi x)
theorem po{w:World}{v:Value}{s:cN}(hs:St H w σ)(hr:RSy H v s):
  aaA 80 [v] w fun u w'=>∃H1 vt e,HLe H H1∧u= .tuple #[vt,I e]∧((s.check≠0∧e=s.check∧vt= .slice none 0 0)∨(s.Ok∧¬s.Sound∧e=23∧vt= .slice none 0 0)∨(s.Ok∧s.Sound∧e=0∧∃rs,RT H1 vt rs∧Sq s.n rs∧nj s.n s.da (gt rs)))∧St H1 w' σ:=by
 obtain ⟨ul,rfl,hl⟩:=hr;obtain ⟨al,cl,rfl⟩:=RL.shape hl;refine Cl.o func80 ntmps80 ag1 ?_;refine .ae (.bx hs fun b1 w hs=>?_);refine .z zg (.zn zg (.ae (.y hs (zls [_,_] bZ aZ) (.o (.call call150 rfl (xn (s:=s) hs ⟨_,rfl,hl⟩) ?_)))));rintro _ w ⟨rfl,hs⟩;refine .zn zg (.seq (.ae (.z zm (.zn gE (.eN rfl (fun nP=>?_) (fun nP=>?_))))))
 ·exact .ae (.z zm (.z zg (.zn zg (.ret (rT (Fin.mi results80 rfl rfl ⟨H,_,_,HLe.refl H,rfl,.inl ⟨nP,rfl,rfl⟩,hs.out⟩))))))
 ·refine .skip (nT (.ae (.y hs (zls [_,_] bZ aZ) ?_)));have bh:s.Ok:=s.dt.1 (by simpa using nP);have Mh:=bh.m1;refine .o (.call call151 rfl (yN (s:=s) hs ⟨_,rfl,hl⟩ bh) ?_);rintro v12 w ⟨H1,rs,aq,wi,Sk,Un,hs⟩;obtain ⟨at',ct,rfl⟩:=wi.shape;refine .zn zg (.seq (.ae (.z zm (.o (.call call152 rfl (xm hs wi Sk (by simp only [cN.n];omega)) ?_)))));rintro _ w ⟨b,rfl,hb,hs⟩;have Pz:=hb.trans (HT bh Un).symm;refine .zn im (.cond rfl (fun iL=>?_) (fun iL=>?_))
  ·exact .ae (.z zg (.zn zg (.ret (rT (Fin.mi results80 rfl rfl ⟨H1,_,_,aq,rfl,.inr (.inl ⟨bh,fun h=>by simp [Pz.2 h] at iL,rfl,rfl⟩),hs.out⟩)))))
  ·exact .skip (nT (.ae (.z zm (.z zg (.zn zg (.ret (Fin.mi results80 rfl rfl ⟨H1,_,_,aq,rfl,.inr (.inr ⟨bh,Pz.1 (by simpa using iL),rfl,rs,wi,Sk,Un⟩),hs.out⟩)))))))
inductive VS(s:cN)(x:List Int):Int→Prop
 |bad (h:s.check≠0):VS s x s.check
 |off (h:s.Ok) (h1:¬L6 s x):VS s x 25
 |ok (h:s.Ok) (h1:L6 s x):VS s x 0
theorem C1{w:World}{v:Value}{ls:List Int}{q:Int→Prop}(hs:St H w σ)(hr:RI H v ls)
  (hc:∀args w,(callFunc g args).run Tryz.prog w= .ok (.enter g args) w) (hp:∀w l,St H w σ→aaA g ([I l]++cap) w fun u w'=>∃b,u= .bool b∧(b=true↔q l)∧St H w' σ):
  aaA 159 [v,.func (.func g) #[] cap.toArray] w fun u w'=>∃i,u=I i∧(0≤i↔∃p∈ls,q p)∧St H w' σ:=by
 obtain ⟨a,c,rfl⟩:=RI.shape hr;have hl:=(RI.len hr).2.2;refine Cl.o func159 ntmps159 ag2 ?_;refine .ae (.zn zg (.seq (.ae (.z zm (.z (cJ af) (.zn zm (.for (N:=ls.length) (J:=fun k fr w=>fr=[(1,.func (.func g) #[] cap.toArray),(0,.slice a ls.length c)]∧St H w σ∧∀j<k,∀l,ls[j]? =some l→¬q l) aj ?_ ?_ ?_)))))))
 ·exact .mk ⟨rfl,hs,fun j hj=>by omega⟩
 ·rintro k fr w hk ⟨rfl,hs,fF⟩;obtain ⟨l,hl⟩:=nth hk;refine .block (.ae (.z zm (.zn zg (.ae (.z zm (.z zm (.z zm ?_)))))));first|(refine .ixv hs af ak ?_;intro tt o14 iW)|refine .z (zix af ak) ?_
  refine .y hs (zld ai) (.o (.ng (first:=[]) rfl rfl hc (hp _ _ hs) ?_));rintro _ w ⟨w7,rfl,tc,hs⟩;refine .nil (.cond rfl (fun ee=>?_) (fun ee=>?_))
  ·exact .ae (.z zm (.zn zg (.ret (rB (rT (rB (rT (Fin.bp OK rfl ⟨_,rfl,⟨fun _=>⟨l,List.mem_of_getElem? hl,tc.1 ee⟩,fun _=>by omega⟩,hs⟩))))))))
  ·exact .skip (nB (nT (.mk ⟨rfl,hs,gv fF hl (fun h=>by rw [tc.2 h] at ee;cases ee)⟩)))
 ·rintro fr w ⟨rfl,hs,fF⟩;refine nT (.ae (.zn zg (.ret (Fin.bp OK rfl ?_))));exact ⟨_,rfl,⟨fun h=>by omega,fun ⟨p,h1,h2⟩=>by
   obtain ⟨j,hj⟩:=List.getElem?_of_mem h1;exact (fF j (List.getElem?_eq_some_iff.1 hj).1 p hj h2).elim⟩,hs⟩
theorem xK{w:World}{v:Value}{ls:List Int}{q:Int→Prop}(hs:St H w σ)(hr:RI H v ls)
  (hc:∀args w,(callFunc g args).run Tryz.prog w= .ok (.enter g args) w) (hp:∀w l,St H w σ→aaA g ([I l]++cap) w fun u w'=>∃b,u= .bool b∧(b=true↔q l)∧St H w' σ):
  aaA 89 [v,.func (.func g) #[] cap.toArray] w fun u w'=>∃b,u= .bool b∧(b=true↔∃p∈ls,q p)∧St H w' σ:=by
 refine Cl.o func89 ntmps89 ag2 ?_;refine .ae (.zn zg (.ae (.z zm (.z zm (.o (.call call159 rfl (C1 hs hr hc hp) ?_))))));rintro _ w ⟨i,rfl,hi,hs⟩;exact .z Bd (.zn zg (.ret (Fin.bp results89 rfl ⟨_,rfl,by simp only [decide_eq_true_eq];exact hi,hs⟩)))
theorem uG{w:World}{n:Int}(hs:St H w σ):aaA 114 [I n] w fun v w'=>∃b,v= .bool b∧(b=true↔¬(-1000000000≤n∧n≤1000000000))∧St H w' σ:=by
 refine Cl.o func114 ntmps114 ag1 ?_;refine .ae (.zn zg (.ae (.z zm (.o (.call call115 rfl (fH hs) ?_)))));rintro _ w ⟨rfl,hs⟩;exact .z im (.zn zg (.ret (Fin.bp results114 rfl ⟨_,rfl,by simp;omega,hs⟩)))
theorem qP{w:World}{v:Value}{s:cN}{x:List Int}(hs:St H w σ)(hr:RSy H v s)(hx:RI H vx x):
  aaA 55 [v,vx] w fun u w'=>∃e,u=I e∧VS s x e∧St H w' σ:=by
 obtain ⟨ul,rfl,hl⟩:=hr;obtain ⟨al,cl,rfl⟩:=RL.shape hl;obtain ⟨ax,cx,rfl⟩:=RI.shape hx;refine Cl.o func55 ntmps55 ag2 ?_;refine .ae (.bx hs fun b2 w hs=>?_);refine .zn zg (.seq (.ae (.y hs (zls [_,_] bZ aZ) (.o (.call call113 rfl (jV (s:=s) hs ⟨_,rfl,hl⟩) ?_)))));rintro _ w ⟨rfl,hs⟩;refine .zn zg (.ae (.z zm (.zn gE ?_)))
 skip
 refine (.eN rfl (fun ta=>?_) (fun ta=>?_))
 ·exact .ae (.z zm (.zn zg (.ret (rT (Fin.bp UY rfl ⟨_,rfl,.bad ta,hs.out⟩)))))
 ·refine .skip (nT (.seq (.ae ?_)));have bh:s.Ok:=s.dt.1 (by simpa using ta);have GY:=bh.m0;have Mh:=bh.m1;have Ah:=bh.len;have KR:(s.n:Int)=s.many+1:=by simp only [cN.n];omega
  refine .z zm (.z (cJ af) (.z (zfa bT) (.y hs (zld ai) (.z cz (.z gE (.z zm (.Js (t':=19) rfl (fun Cy=>?_) (fun Cy=>?_))))))))
  ·refine .Fs 4 6 false (.z zpT (.z zm (.Fs 2 12 false (.zn zpT (.cT (.ae (.zn zg (.ret (rT (Fin.bp UY rfl ?_))))))))));first
    |exact ⟨_,rfl,.ok bh ⟨aj,by first|omega|(simpa using zG),fun v hv=>qv v aj,fO.2 fun y hy=>by
      obtain ⟨i,hi⟩:=List.getElem?_of_mem hy;exact h1 i (List.getElem?_eq_some_iff.1 hi).1 y hi⟩,hs.out⟩
    |exact ⟨_,rfl,.off bh (fun h=>by have:=h.len;omega),hs.out⟩
    |exact ⟨_,rfl,.off bh (fun h=>by have:=h.zero;first|omega|(simp at zG;omega)),hs.out⟩
    |exact ⟨_,rfl,.off bh (fun h=>by
      obtain ⟨p,h1,h2⟩:=uq.1 lP;obtain ⟨i,hi⟩:=List.getElem?_of_mem h1;have si:=(List.getElem?_eq_some_iff.1 hi).1;have:=bG si;rw [hi] at this;cases this
      exact h2 (h.free i (by have:=h.len;omega))),hs.out⟩
    |exact ⟨_,rfl,.off bh (fun h=>by
      have h8:=fO.1 h.De y (List.mem_of_getElem? hy);omega),hs.out⟩
  ·refine .T (.z zm (.T (.ixX (enc:=fun x=>[I x]) hs hx rfl rfl af ak (bG (l:=x) (i:=0) aj) rfl ?_)));intro UJ o21 kf;replace kf:=bE.one kf;refine .T (.y hs (zld ai) (.T (.z gE (.z zpF (.z zm (.Js (t':=25) rfl (fun zG=>?_) (fun zG=>?_)))))))
   ·refine .Fs 2 12 false (.zn zpT (.cT (.ae (.zn zg (.ret (rT (Fin.bp UY rfl ?_)))))));first
     |exact ⟨_,rfl,.ok bh ⟨aj,by first|omega|(simpa using zG),fun v hv=>qv v aj,fO.2 fun y hy=>by
       obtain ⟨i,hi⟩:=List.getElem?_of_mem hy;exact h1 i (List.getElem?_eq_some_iff.1 hi).1 y hi⟩,hs.out⟩
     |exact ⟨_,rfl,.off bh (fun h=>by have:=h.len;omega),hs.out⟩
     |exact ⟨_,rfl,.off bh (fun h=>by have:=h.zero;first|omega|(simp at zG;omega)),hs.out⟩
     |exact ⟨_,rfl,.off bh (fun h=>by
       obtain ⟨p,h1,h2⟩:=uq.1 lP;obtain ⟨i,hi⟩:=List.getElem?_of_mem h1;have si:=(List.getElem?_eq_some_iff.1 hi).1;have:=bG si;rw [hi] at this;cases this
       exact h2 (h.free i (by have:=h.len;omega))),hs.out⟩
     |exact ⟨_,rfl,.off bh (fun h=>by
       have h8:=fO.1 h.De y (List.mem_of_getElem? hy);omega),hs.out⟩
   ·refine .T (.z zm (.T (.o (.call call89 rfl (xK (q:=fun n=>¬(-1000000000≤n∧n≤1000000000)) (cap:=[]) hs hx call114 (fun w n hs=>uG hs)) ?_))));rintro _ w ⟨BO,rfl,uq,hs⟩;refine .zn zpF (.cond rfl (fun lP=>?_) (fun lP=>?_))
    ·refine .ae (.zn zg (.ret (rT (Fin.bp UY rfl ?_))));first
      |exact ⟨_,rfl,.ok bh ⟨aj,by first|omega|(simpa using zG),fun v hv=>qv v aj,fO.2 fun y hy=>by
        obtain ⟨i,hi⟩:=List.getElem?_of_mem hy;exact h1 i (List.getElem?_eq_some_iff.1 hi).1 y hi⟩,hs.out⟩
      |exact ⟨_,rfl,.off bh (fun h=>by have:=h.len;omega),hs.out⟩
      |exact ⟨_,rfl,.off bh (fun h=>by have:=h.zero;first|omega|(simp at zG;omega)),hs.out⟩
      |exact ⟨_,rfl,.off bh (fun h=>by
        obtain ⟨p,h1,h2⟩:=uq.1 lP;obtain ⟨i,hi⟩:=List.getElem?_of_mem h1;have si:=(List.getElem?_eq_some_iff.1 hi).1;have:=bG si;rw [hi] at this;cases this
        exact h2 (h.free i (by have:=h.len;omega))),hs.out⟩
      |exact ⟨_,rfl,.off bh (fun h=>by
        have h8:=fO.1 h.De y (List.mem_of_getElem? hy);omega),hs.out⟩
    ·refine .skip (nT (.seq (.ae (.z (zfa bS) (.y hs (zld ft) (.z (cJ aW) (.zn zm (.for (N:=s.cu.length) (J:=fun k fr w=>fr=[(30,.slice al s.cu.length cl),(1,.slice ax x.length cx)]∧(∀i<k,∀y,s.cu[i]? =some y→gi x y.B.toNat≤gi x y.A.toNat+y.M)∧St H w (.blk b2 [I s.many,.slice al s.cu.length cl]::σ)) aj ?_ ?_ ?_))))))))
     ·exact .mk ⟨rfl,fun i hi=>by omega,hs⟩
     ·have qv:∀v<x.length,-1000000000≤gi x v∧gi x v≤1000000000:=fun v hv=>by
       apply Classical.byContradiction;intro h;have:=uq.2 ⟨gi x v,List.mem_of_getElem? (bG hv),h⟩;subst this;simp at lP
      rintro k fr w hk ⟨rfl,h1,hs⟩;obtain ⟨y,hy⟩:=nth hk;obtain ⟨⟨y1,y2⟩,⟨y3,y4⟩,y5,y6,-⟩:=bh.lim y (List.mem_of_getElem? hy);have z1:=qv y.B.toNat aj;have z2:=qv y.A.toNat aj;refine .block (.ae (.ixX (enc:=Lim.c) hs hl rfl rfl aW bU hy rfl ?_));intro RK o34 ma;refine .q hs (bD (vs:=y.c) rfl mw bU ma) (.o (.alloc hs gZ rfl fun b7 w hs=>?_));refine .o (.aD (vs:=y.c) hs rfl rfl bU fun w hs=>?_);refine .nil (.seq (.draw mix rfl hs fun w hs=>?_));refine .zw 0 rfl zm ?_;refine .z 1 rfl (zfa eR) ?_;refine .y 2 rfl hs ai ?_;refine .ixX (enc:=fun x=>[I x]) (i:=3) hs rfl au .none hx rfl rfl af ak (bG (l:=x) (i:=y.B.toNat) aj) aj ?_;intro VL o39 oD;replace oD:=bE.one oD;refine .r (i:=4) hs rfl au .none (aP rfl ai oD) ?_;refine .zw 5 rfl zm ?_;refine .z 6 rfl (zfa eo) ?_;refine .y 7 rfl hs ai ?_;refine .ixX (enc:=fun x=>[I x]) (i:=8) hs rfl au .none hx rfl rfl af ak (bG (l:=x) (i:=y.A.toNat) aj) aj ?_;intro b44 o44 AU;replace AU:=bE.one AU;refine .r (i:=9) hs rfl au .none (aP rfl ai AU) ?_;refine .zw 10 rfl iw ?_;refine .z 11 rfl (zfa gI) ?_;refine .y 12 rfl hs ai ?_;refine .z 13 rfl q5 ?_;refine .D hs ?_;refine (.bX rfl (fun AT=>?_) (fun AT=>?_))
      ·refine .ae (.zn zg (.ret (rB (rT (rB (rT (Fin.bp UY rfl ?_)))))));first
        |exact ⟨_,rfl,.ok bh ⟨aj,by first|omega|(simpa using zG),fun v hv=>qv v aj,fO.2 fun y hy=>by
          obtain ⟨i,hi⟩:=List.getElem?_of_mem hy;exact h1 i (List.getElem?_eq_some_iff.1 hi).1 y hi⟩,hs.out⟩
        |exact ⟨_,rfl,.off bh (fun h=>by have:=h.len;omega),hs.out⟩
        |exact ⟨_,rfl,.off bh (fun h=>by have:=h.zero;first|omega|(simp at zG;omega)),hs.out⟩
        |exact ⟨_,rfl,.off bh (fun h=>by
          obtain ⟨p,h1,h2⟩:=uq.1 lP;obtain ⟨i,hi⟩:=List.getElem?_of_mem h1;have si:=(List.getElem?_eq_some_iff.1 hi).1;have:=bG si;rw [hi] at this;cases this
          exact h2 (h.free i (by have:=h.len;omega))),hs.out⟩
        |exact ⟨_,rfl,.off bh (fun h=>by
          have h8:=fO.1 h.De y (List.mem_of_getElem? hy);omega),hs.out⟩
      ·refine .skip (nB (nT ?_));exact .mk ⟨rfl,fun i hi z hz=>by
        by_cases e:i=k
        ·subst e;rw [hy] at hz;cases hz;omega
        ·exact h1 i aj z hz,hs.out⟩
     ·have qv:∀v<x.length,-1000000000≤gi x v∧gi x v≤1000000000:=fun v hv=>by
       apply Classical.byContradiction;intro h;have:=uq.2 ⟨gi x v,List.mem_of_getElem? (bG hv),h⟩;subst this;simp at lP
      rintro fr w ⟨rfl,h1,hs⟩;refine nT (.ae (.zn zg (.ret (Fin.bp UY rfl ?_))));first
       |exact ⟨_,rfl,.ok bh ⟨aj,by first|omega|(simpa using zG),fun v hv=>qv v aj,fO.2 fun y hy=>by
         obtain ⟨i,hi⟩:=List.getElem?_of_mem hy;exact h1 i (List.getElem?_eq_some_iff.1 hi).1 y hi⟩,hs.out⟩
       |exact ⟨_,rfl,.off bh (fun h=>by have:=h.len;omega),hs.out⟩
       |exact ⟨_,rfl,.off bh (fun h=>by have:=h.zero;first|omega|(simp at zG;omega)),hs.out⟩
       |exact ⟨_,rfl,.off bh (fun h=>by
         obtain ⟨p,h1,h2⟩:=uq.1 lP;obtain ⟨i,hi⟩:=List.getElem?_of_mem h1;have si:=(List.getElem?_eq_some_iff.1 hi).1;have:=bG si;rw [hi] at this;cases this
         exact h2 (h.free i (by have:=h.len;omega))),hs.out⟩
       |exact ⟨_,rfl,.off bh (fun h=>by
         have h8:=fO.1 h.De y (List.mem_of_getElem? hy);omega),hs.out⟩
end Go.Proofs.YtlgfjghdgbhkhaaGreat
namespace Go.Proofs
open Go.Shelf
def Tryz.FO:Go.Shelf.Ren:=⟨fun|189=>142|125=>214|257=>213|128=>255|129=>256|294=>246|295=>247|296=>248|297=>249|298=>250|299=>251|216=>252|300=>253|301=>254|328=>278|329=>279|330=>280|331=>281|332=>282|215=>175|343=>292|n=>n,fun|28=>22|3=>3|46=>306|0=>0|51=>341|53=>343|4=>4|183=>335|182=>334|131=>213|5=>5|9=>9|218=>359|222=>363|228=>375|229=>318|n=>n,fun|n=>n⟩
theorem Tryz.Kw:Go.Proofs.Lays.n189 Tryz.prog Tryz.FO:={
 mixed:=by kernel_rfl
 f125:=Tryz.func214.trans (congrArg some (by kernel_rfl))
 f128:=Tryz.func255.trans (congrArg some (by kernel_rfl))
 f129:=Tryz.func256.trans (congrArg some (by kernel_rfl))
 f189:=Tryz.func142.trans (congrArg some (by kernel_rfl))
 f215:=Tryz.func175.trans (congrArg some (by kernel_rfl))
 f216:=Tryz.func252.trans (congrArg some (by kernel_rfl))
 f257:=Tryz.func213.trans (congrArg some (by kernel_rfl))
 f294:=Tryz.func246.trans (congrArg some (by kernel_rfl))
 f295:=Tryz.func247.trans (congrArg some (by kernel_rfl))
 f296:=Tryz.func248.trans (congrArg some (by kernel_rfl))
 f297:=Tryz.func249.trans (congrArg some (by kernel_rfl))
 f298:=Tryz.func250.trans (congrArg some (by kernel_rfl))
 f299:=Tryz.func251.trans (congrArg some (by kernel_rfl))
 f300:=Tryz.func253.trans (congrArg some (by kernel_rfl))
 f301:=Tryz.func254.trans (congrArg some (by kernel_rfl))
 f328:=Tryz.func278.trans (congrArg some (by kernel_rfl))
 f329:=Tryz.func279.trans (congrArg some (by kernel_rfl))
 f330:=Tryz.func280.trans (congrArg some (by kernel_rfl))
 f331:=Tryz.func281.trans (congrArg some (by kernel_rfl))
 f332:=Tryz.func282.trans (congrArg some (by kernel_rfl))
 f343:=Tryz.func292.trans (congrArg some (by kernel_rfl))
 t0:=Tryz.underlying0
 a0:=Tryz.isAgg0
 z0:=Tryz.sizeOf0
 v0:=Tryz.zeroValue0
 t3:=Tryz.underlying3
 a3:=Tryz.isAgg3
 z3:=Tryz.sizeOf3
 v3:=Tryz.zeroValue3
 t4:=Tryz.underlying4
 a4:=Tryz.isAgg4
 z4:=Tryz.sizeOf4
 v4:=Tryz.zeroValue4
 t5:=Tryz.underlying5
 a5:=Tryz.isAgg5
 z5:=Tryz.sizeOf5
 v5:=Tryz.zeroValue5
 t9:=Tryz.underlying9
 a9:=Tryz.isAgg9
 z9:=Tryz.sizeOf9
 v9:=Tryz.zeroValue9
 t28:=Tryz.underlying22
 a28:=Tryz.isAgg22
 z28:=Tryz.sizeOf22
 v28:=Tryz.zeroValue22
 t46:=Tryz.underlying306
 a46:=Tryz.isAgg306
 z46:=Tryz.sizeOf306
 v46:=Tryz.zeroValue306
 t51:=Tryz.underlying341
 a51:=Tryz.isAgg341
 z51:=Tryz.sizeOf341
 v51:=Tryz.zeroValue341
 t53:=Tryz.underlying343
 a53:=Tryz.isAgg343
 z53:=Tryz.sizeOf343
 v53:=Tryz.zeroValue343
 t131:=Tryz.underlying213
 a131:=Tryz.isAgg213
 z131:=Tryz.sizeOf213
 v131:=Tryz.zeroValue213
 t182:=Tryz.underlying334
 a182:=Tryz.isAgg334
 z182:=Tryz.sizeOf334
 v182:=Tryz.zeroValue334
 t183:=Tryz.underlying335
 a183:=Tryz.isAgg335
 z183:=Tryz.sizeOf335
 v183:=Tryz.zeroValue335
 t218:=Tryz.underlying359
 a218:=Tryz.isAgg359
 z218:=Tryz.sizeOf359
 v218:=Tryz.zeroValue359
 t222:=Tryz.underlying363
 a222:=Tryz.isAgg363
 z222:=Tryz.sizeOf363
 v222:=Tryz.zeroValue363
 t228:=Tryz.underlying375
 a228:=Tryz.isAgg375
 z228:=Tryz.sizeOf375
 v228:=Tryz.zeroValue375
 t229:=Tryz.underlying318
 a229:=Tryz.isAgg318
 z229:=Tryz.sizeOf318
 v229:=Tryz.zeroValue318}
def Tryz.DZ:Go.Shelf.Ren:=⟨fun|20=>143|n=>n,fun|22=>22|3=>3|4=>4|0=>0|n=>n,fun|n=>n⟩
theorem Tryz.GQ:Go.Proofs.Lays2.n20 Tryz.prog Tryz.DZ:={
 mixed:=by kernel_rfl
 f20:=Tryz.func143.trans (congrArg some (by kernel_rfl))
 t0:=Tryz.underlying0
 a0:=Tryz.isAgg0
 z0:=Tryz.sizeOf0
 v0:=Tryz.zeroValue0
 t3:=Tryz.underlying3
 a3:=Tryz.isAgg3
 z3:=Tryz.sizeOf3
 v3:=Tryz.zeroValue3
 t4:=Tryz.underlying4
 a4:=Tryz.isAgg4
 z4:=Tryz.sizeOf4
 v4:=Tryz.zeroValue4
 t22:=Tryz.underlying22
 a22:=Tryz.isAgg22
 z22:=Tryz.sizeOf22
 v22:=Tryz.zeroValue22
 i3:=by kernel_rfl}
end Go.Proofs
namespace Go.Proofs.YtlgfjghdgbhkhaaGreat
open Go.Sort Go.RowKit
theorem MF(blk off cap:Nat)(zs:List Int)(w:World)(hH:Holds (Value.int .i64) w blk off zs.toArray)(XN:blk<w.heap.size)(ui:zs.length<4611686018427387904):
  Calls Tryz.prog 142 #[.slice (some ⟨blk,off,none⟩) zs.length cap] w fun e w'=>e= .returned (.tuple #[])∧∃n os,w'=grow (putRow (Value.int .i64) (Sort.ahead w n) blk off (zs.mergeSort fun x y=>decide (x≤y)).toArray) os:=
 Any.slices_Sort_int Tryz.Kw blk off cap zs w hH XN ui
theorem B2(p:Option Addr)(cap:Nat)(w:World):Calls Tryz.prog 142 #[.slice p 0 cap] w fun e w'=>e= .returned (.tuple #[])∧w'=w:=
 Any.slices_Sort_int_none Tryz.Kw p cap w
theorem Fo(blk off cap:Nat)(zs:List Int)(w:World)(hH:Holds (Value.int .i64) w blk off zs.toArray)(ui:zs.length≤9223372036854775807)(qw:zs.length≤cap):
  Calls Tryz.prog 143 #[.slice (some ⟨blk,off,none⟩) zs.length cap] w fun e w'=>e= .returned (.slice (some ⟨blk,off,none⟩) (Lib.compact zs).length cap)∧∃q,w'=putRow (Value.int .i64) (Sort.ahead w q) blk off (Lib.compact zs++List.replicate (zs.length - (Lib.compact zs).length) 0).toArray:=
 Any.slices_Compact_int Tryz.GQ blk off cap zs w hH ui qw
theorem xh(p:Option Addr)(cap:Nat)(w:World):Calls Tryz.prog 143 #[.slice p 0 cap] w fun e w'=>e= .returned (.slice p 0 cap)∧w'=w:=
 Any.slices_Compact_int_empty Tryz.GQ p cap w
end Go.Proofs.YtlgfjghdgbhkhaaGreat
namespace Go.Proofs.YtlgfjghdgbhkhaaGreat
open Go.MW Tryz
variable{H:bB}{σ:List Ent}{a0 a1 a2 x most a hi lo j f e known fl id number:Int}{l:Lns}{ls:List Lim}{g b k b1 bf bt bl cl i bm bc bn:Nat}{cap sp:List Value}{s:Srv}{xs lf ws bs L X Y cn ks days:List Int}{en:Ent}{ts:List TD}{vl vt vd vp vw vb vx v1 v2 vr vc d vh vs v5 v4 fu b' tap dn b2 c2 d2:Value}{m:Rng}{t:TD}{rows:List (List Int)}{high th:Bool}{kd:Int→Int}
theorem xi{w:World}{v:Value}{ls:List Int}(hs:St H w σ)(hr:RI H v ls):
  aaA 289 [v,I x] w fun u w'=>∃i,u=I i∧(0≤i↔x∈ls)∧St H w' σ:=by
 obtain ⟨a,c,rfl⟩:=RI.shape hr;have hl:=(RI.len hr).2.2;refine Cl.o func289 ntmps289 ag2 ?_;refine .ae (.zn zg (.seq (.ae (.z zm (.z (cJ af) (.zn zm (.for (N:=ls.length) (J:=fun k fr w=>fr=[(1,I x),(0,.slice a ls.length c)]∧St H w σ∧∀j<k,∀y,ls[j]? =some y→¬x=y) aj ?_ ?_ ?_)))))))
 ·exact .mk ⟨rfl,hs,fun j hj=>by omega⟩
 ·rintro k fr w hk ⟨rfl,hs,fF⟩;obtain ⟨y,hy⟩:=nth hk;refine .block (.ae (.z zm (.zn zg (.ae (.z zm (.z zm (.z zm (.ixY hs hr rfl rfl af ak hy rfl ?_))))))));intro tt o14 iW;refine .q hs (aP rfl ai iW) (.zn gO (.bX rfl (fun ee=>?_) (fun ee=>?_)))
  ·exact .ae (.z zm (.zn zg (.ret (rB (rT (rB (rT (Fin.bp results289 rfl ⟨_,rfl,⟨fun _=>by rw [ee];exact List.mem_of_getElem? hy,fun _=>by omega⟩,hs⟩))))))))
  ·exact .skip (nB (nT (.mk ⟨rfl,hs,gv fF hy ee⟩)))
 ·rintro fr w ⟨rfl,hs,fF⟩;refine nT (.ae (.zn zg (.ret (Fin.bp results289 rfl ?_))));exact ⟨_,rfl,⟨fun h=>by omega,fun h=>by
   obtain ⟨j,hj⟩:=List.getElem?_of_mem h;exact (fF j (List.getElem?_eq_some_iff.1 hj).1 x hj rfl).elim⟩,hs⟩
theorem sJ{w:World}{v:Value}{ls:List Int}(hs:St H w σ)(hr:RI H v ls):
  aaA 276 [v,I x] w fun u w'=>u= .bool (decide (x∈ls))∧St H w' σ:=by
 refine Cl.o func276 ntmps276 ag2 ?_;refine .ae (.zn zg (.ae (.z zm (.z zm (.o (.call call289 rfl (xi hs hr) ?_))))));rintro _ w ⟨i,rfl,hi,hs⟩;exact .z Bd (.zn zg (.ret (Fin.bp results276 rfl ⟨by simp only [hi],hs⟩)))
set_option maxHeartbeats 1000000 in
theorem zS{w:World}{v:Value}{s:cN}(q:Nat→Lim→Bool)(hs:St H w σ)(hr:RSy H v s)(hlen:s.cu.length≤4398046510976)(hc:∀args w,(callFunc g args).run Tryz.prog w= .ok (.enter g args) w)
  (hp:∀w σ (k:Nat) (l:Lim),s.cu[k]? =some l→St H w σ→aaA g ([I k,.agg l.c.toArray]++cap) w fun u w'=>u= .bool (q k l)∧St H w' σ):
  aaA 274 [v,.func (.func g) #[] cap.toArray] w fun u w'=>∃H1,HLe H H1∧RSy H1 u ⟨s.many,mj q s.cu s.cu.length⟩∧St H1 w' σ:=by
 obtain ⟨ul,rfl,hl⟩:=hr;obtain ⟨al,cl,rfl⟩:=RL.shape hl;refine Cl.o func274 ntmps274 ag2 ?_;refine .ae (.bx hs fun b2 w hs=>?_);refine .o (.alloc hs fP rfl fun b4 w hs=>?_);refine .nil (.ae (.z (zfa bT) (.y hs (zld ai) (.z (zbd [_,_] lG) (.o (.alloc hs fP rfl fun b5 w hs=>?_))))));refine .o (.aD (vs:=[_,_]) hs rfl rfl aZ fun w hs=>?_);refine .nil (.seq (.ae (.z (zfa bS) (.y hs (zld ft) (.z (cJ aW) (.zn zm (.for (N:=s.cu.length) (J:=fun k fr w=>fr=[(12,.slice al s.cu.length cl),(1,.func (.func g) #[] cap.toArray),(5,Pt b5),(4,Pt b4)]∧∃vL en,bM 4 vL (iq (mj q s.cu k)) en∧St H w (.blk b5 [I s.many,vL]:: .blk b4 [I 0,.slice none 0 0]::en::σ)) aj ?_ ?_ ?_)))))))
 ·exact .mk ⟨rfl,_,_,.nil 4 none,hs.nul.sb⟩
 ·rintro k fr w hk ⟨rfl,vL,en,hO,hs⟩;obtain ⟨x,hx⟩:=nth (l:=s.cu) hk;obtain ⟨aL,lL,cL,rfl,hL⟩:=hO.shape;have Jn:=oM q s.cu k;refine .block (.ae (.z zm (.ixX hs hl rfl rfl aW bU hx rfl ?_)));intro tr o17 kV;refine .q hs (bD (vs:=x.c) rfl mw bU kV) (.o (.alloc hs gZ rfl fun b7 w hs=>?_));refine .z zg (.o (.aD (vs:=x.c) hs rfl rfl bU fun w hs=>?_));refine .nil (.ae (.z zm (.z zm (.y hs (zls [_,_,_,_] mw bU) (.o (.ng (first:=[]) (cap:=cap) rfl rfl hc (hp _ _ k x hx hs) ?_))))));rintro _ w ⟨rfl,hs⟩;refine .nil (.cond rfl (fun jv=>?_) (fun jv=>?_))
  ·refine .region (.z (zfa bS) (.y hs (zld ft) (.y hs (zls [_,_,_,_] mw bU) (.o (.buildSlice (cells:=x.c) hs uH rfl rfl fun VP w hs=>?_)))));refine .o (.append (ys:=x.c) hs cj rfl rfl hO (.own .here rfl rfl) (by simp [Lim.c,Value.oneCell']) (fun l h=>by rw [fj] at h;omega) ?_);intro v27 en27 w eh hs;obtain ⟨a27,l27,c27,rfl,h27⟩:=eh.shape;refine .z (zfa bS) (.o (.store hs rfl rfl sizeOf110 fun w hs=>?_));refine .nil (nB (nT ?_));have e:mj q s.cu (k+1)=mj q s.cu k++[x]:=by rw [sQ hx,if_pos jv]
   rw [←OG,←jq,←e] at eh;exact .mk ⟨rfl,_,_,eh,hs.sb⟩
  ·refine .skip (nB (nT ?_));have e:mj q s.cu (k+1)=mj q s.cu k:=by rw [sQ hx,jv];simp
   exact .mk ⟨rfl,_,_,by rw [e];exact hO,hs.sb⟩
 ·rintro fr w ⟨rfl,vL,en,hO,hs⟩;obtain ⟨aL,lL,cL,rfl,hL⟩:=hO.shape;have Jn:=oM q s.cu s.cu.length;refine nT (.ae (.y hs (zls [_,_] bZ aZ) (.o (.aD (vs:=[_,_]) hs rfl rfl aZ fun w hs=>?_))));refine .nil (.ret ?_);obtain ⟨H1,g1,r1,hs⟩:=bM.bQ (m:=4) (cs:=(mj q s.cu s.cu.length).map Lim.c) hO (fun c hc=>by simp only [List.mem_map] at hc;obtain ⟨x,_,rfl⟩:=hc;rfl) aj (by rw [List.length_map];omega) hs dr;exact Fin.iz [] [] hs fun w hs=>⟨_,results1 results274 (cO (vs:=[_,_]) hs rfl bZ aZ),H1,g1,⟨_,rfl,r1⟩,hs.out⟩
theorem zT{w:World}{i:Int}{l:Lim}(hs:St H w σ)(hb:Row H b [vb])(hr:RI H vb bs):
  aaA 275 [I i,.agg l.c.toArray,Pt b] w fun u w'=>u= .bool (!decide (l.S∈bs))∧St H w' σ:=by
 have Fa:cellAt H b 0=some vb:=by rw [hb.cell];rfl
 refine Cl.o func275 ntmps275 ag3 ?_;refine .ae (.bx hs fun b4 w hs=>?_);refine .zn zg (.ae (.y hs (zld an) (.z (zfa lE) (.y hs (zld ai) (.o (.call call276 rfl (sJ hs hr) ?_))))));rintro _ w ⟨rfl,hs⟩;exact .z im (.zn zg (.ret (Fin.bp results275 rfl ⟨rfl,hs.out⟩)))
theorem uF{w:World}{v:Value}{s:cN}(hs:St H w σ)(hr:RSy H v s)(hb:RI H vb bs)(hlen:s.cu.length≤4398046510976):
  aaA 239 [v,vb] w fun u w'=>∃H1,HLe H H1∧RSy H1 u (s.wo bs)∧St H1 w' σ:=by
 obtain ⟨ul,rfl,hl⟩:=hr;obtain ⟨al,cl,rfl⟩:=RL.shape hl;obtain ⟨ab,cb,rfl⟩:=RI.shape hb;refine Cl.o func239 ntmps239 ag2 ?_;refine .ae (.bx hs fun b2 w hs=>?_);refine .bx hs fun b3 w hs=>?_
 refine .o (.alloc hs fP rfl fun b4 w hs=>?_);refine .nil (.ae (.y hs (zls [_,_] bZ aZ) (.q hs (cV (f:=[]) (c:=[_]) rfl rfl) ?_)));obtain ⟨H1,aq,r3,hs⟩:=hs.bQ (b:=b3) dr;refine .o (.call call274 rfl (zS (g:=275) (cap:=[Pt b3]) (s:=s) (fun _ l=> !decide (l.S∈bs)) hs ⟨_,rfl,hl.mono aq⟩ hlen call275 (fun w σ k l _ hs=>zT hs r3 (hb.mono aq))) ?_);rintro _ w ⟨H2,aO,⟨u7,rfl,Yq⟩,hs⟩;rw [Ij] at Yq;obtain ⟨a7,c7,rfl⟩:=RL.shape Yq;refine .o (.aD (vs:=[_,_]) hs rfl rfl aZ fun w hs=>?_);exact .nil (.ret (Fin.iz [] [] hs fun w hs=>⟨_,results1 results239 (cO (vs:=[_,_]) hs rfl bZ aZ),H2,aq.trans aO,⟨_,rfl,Yq⟩,hs.out⟩))
theorem p9{w:World}{cap:Nat}(hs:St H w (.blk b (Is xs++sp)::σ))(hl:xs.length≤17592186044416):
  aaA 142 [.slice (some ⟨b,0,none⟩) xs.length cap] w fun u w'=>u= .tuple #[]∧St H w' (.blk b (Is (xs.mergeSort fun x y=>decide (x≤y))++sp)::σ):=
 (MF b 0 cap xs w hs.holds (hs.lt .here) aj).mono fun e w' ⟨he,m,os,hw⟩=>⟨_,he,rfl,by
  rw [hw];exact (hs.putRow (List.length_mergeSort _)).grow os⟩
theorem pj{w:World}{a:Option Addr}{cap:Nat}(hs:St H w σ):
  aaA 142 [.slice a 0 cap] w fun u w'=>u= .tuple #[]∧St H w' σ:=
 (B2 a cap w).mono fun e w' ⟨he,hw⟩=>⟨_,he,rfl,by rw [hw];exact hs⟩
theorem nu{w:World}{cap:Nat}(hs:St H w (.blk b (Is xs++sp)::σ))(hl:xs.length≤17592186044416)(qw:xs.length≤cap):
  aaA 143 [.slice (some ⟨b,0,none⟩) xs.length cap] w fun u w'=>u= .slice (some ⟨b,0,none⟩) (Go.Lib.compact xs).length cap∧St H w' (.blk b (Is (Go.Lib.compact xs)++(Is (List.replicate (xs.length - (Go.Lib.compact xs).length) 0)++sp))::σ):=
 (Fo b 0 cap xs w hs.holds aj qw).mono fun e w' ⟨he,m,hw⟩=>⟨_,he,rfl,by
  rw [hw];have h:=Go.Lib.compact_length_le xs;have:=hs.putRow (m:=m) (ys:=Go.Lib.compact xs++List.replicate (xs.length - (Go.Lib.compact xs).length) 0) (by simp;omega);have e2:Is (Go.Lib.compact xs++List.replicate (xs.length - (Go.Lib.compact xs).length) 0)=Is (Go.Lib.compact xs)++Is (List.replicate (xs.length - (Go.Lib.compact xs).length) 0):=List.map_append;rw [e2,List.append_assoc] at this;exact this⟩
theorem mK{w:World}{a:Option Addr}{cap:Nat}(hs:St H w σ):
  aaA 143 [.slice a 0 cap] w fun u w'=>u= .slice a 0 cap∧St H w' σ:=
 (xh a cap w).mono fun e w' ⟨he,hw⟩=>⟨_,he,rfl,by rw [hw];exact hs⟩
theorem A0{w:World}{v:Value}(hs:St H w (en::σ))(hO:bM 1 v (Is xs) en)(hl:xs.length≤17592186044416):
  aaA 272 [v] w fun u w'=>∃L iY,bM 1 u (Is L) iY∧L.length≤xs.length∧mY (fun x=>x∈xs) L∧St H w' (iY::σ):=by
 rcases hO with ⟨a,rfl,h0,rfl⟩|⟨b,len,cap,sp,rfl,rfl,h3,h4,h5⟩
 ·have hx:xs=[]:=by simpa using h0
  subst hx;refine Cl.o func272 ntmps272 ag1 ?_;refine .ae (.zn zg (.ae (.z zm (.o (.call call142 rfl (pj hs) ?_)))));rintro _ w ⟨rfl,hs⟩;refine .nil (.ae (.z zm (.o (.call call143 rfl (mK hs) ?_))));rintro _ w ⟨rfl,hs⟩;exact .zn zg (.ret (Fin.bp results272 rfl ⟨[],_,.nil 1 a,br,.nil br,hs.out⟩))
 ·obtain rfl:len=xs.length:=by simpa using h3.symm
  refine Cl.o func272 ntmps272 ag1 ?_;refine .ae (.zn zg (.ae (.z zm (.o (.call call142 rfl (p9 hs hl) ?_)))));rintro _ w ⟨rfl,hs⟩;refine .nil (.ae (.z zm ?_));have TF:(xs.mergeSort fun x y=>decide (x≤y)).length=xs.length:=List.length_mergeSort _;rw [←TF];refine .o (.call call143 rfl (nu hs aj aj) ?_);rintro _ w ⟨rfl,hs⟩;refine .zn zg (.ret (Fin.bp results272 rfl ?_));have Ai:=Go.Lib.compact_length_le (xs.mergeSort fun x y=>decide (x≤y));have h4':xs.length+sp.length=cap:=by simpa using h4
  exact ⟨_,_,.inr ⟨b,_,cap,Is (List.replicate ((xs.mergeSort fun x y=>decide (x≤y)).length - (Go.Lib.compact (xs.mergeSort fun x y=>decide (x≤y))).length) 0)++sp,rfl,rfl,br,by simp;omega,aj⟩,aj,Fp,hs⟩
theorem nE{w:World}{v:Value}{s:cN}(hs:St H w σ)(hr:RSy H v s)(hlen:s.cu.length≤4398046510976):
  aaA 237 [v] w fun u w'=>∃L en,bM 1 u (Is L) en∧L.length≤s.cu.length∧mY (Sz s.cu) L∧St H w' (en::σ):=by
 obtain ⟨ul,rfl,hl⟩:=hr;obtain ⟨al,cl,rfl⟩:=RL.shape hl;refine Cl.o func237 ntmps237 ag1 ?_;refine .ae (.bx hs fun b1 w hs=>?_);refine .zn zg (.ae (.zn zg (.seq (.ae (.z (zfa bS) (.y hs (zld ft) (.z (cJ aW) (.zn zm (.for (N:=s.cu.length) (J:=fun k fr w=>∃v3 en,bM 1 v3 (Is ((s.cu.take k).map Lim.S)) en∧fr=[(3,v3),(7,.slice al s.cu.length cl)]∧St H w (en::σ)) aj ?_ ?_ ?_)))))))))
 ·exact .mk ⟨_,_,.nil 1 none,rfl,hs.nul.sb⟩
 ·rintro k fr w hk ⟨v3,en,hO,rfl,hs⟩;obtain ⟨x,hx⟩:=nth (l:=s.cu) hk;obtain ⟨a3,l3,c3,rfl,h3⟩:=hO.shape;refine .block (.ae (.ixX hs hl rfl rfl aW bU hx rfl ?_));intro EJ o11 ta;refine .q hs (bD (vs:=x.c) rfl mw bU ta) (.o (.alloc hs gZ rfl fun b5 w hs=>?_));refine .o (.aD (vs:=x.c) hs rfl rfl bU fun w hs=>?_);refine .nil (.region (.z zm (.z (zfa lE) (.y hs (zld ai) (.o (.buildSlice (cells:=[_]) hs bJ rfl rfl fun w7 w hs=>?_))))));refine .o (.append (ys:=Is [x.S]) hs bO rfl rfl hO (.own .here rfl rfl) (jF _) (fun l' h=>by simp at h;omega) ?_);intro v17 en17 w eh hs;rw [←List.map_append] at eh;exact .zn zg (nB (nT (.mk ⟨_,_,by rw [dv hx,List.map_append];exact eh,rfl,hs.sb⟩)))
 ·rintro fr w ⟨v3,en,hO,rfl,hs⟩;rw [List.take_length] at hO;refine nT (.ae (.z zm (.o (.call call272 rfl (A0 hs hO (by rw [List.length_map];omega)) ?_))));rintro v20 w ⟨L,iY,Ob,hL,hR,hs⟩;rw [List.length_map] at hL;exact .zn zg (.ret (Fin.bp results237 rfl ⟨L,iY,Ob,hL,hR.congr fun x=>by simp [Sz],hs⟩))
theorem rp{w:World}{v:Value}(q:Int→Bool)(hs:St H w (en::σ))(hO:bM 1 v (Is xs) en)(hl:xs.length≤17592186044416)(hc:∀args w,(callFunc g args).run Tryz.prog w= .ok (.enter g args) w)
  (hp:∀H' w σ (n:Int),n∈xs→HLe H H'→St H' w σ→aaA g ([I n]++cap) w fun u w'=>∃H1,HLe H' H1∧u= .bool (q n)∧St H1 w' σ):
  aaA 159 [v,.func (.func g) #[] cap.toArray] w fun u w'=>∃H1 i,HLe H H1∧u=I i∧((i= -1∧∀x∈xs,q x=false)∨(∃(k:Nat) (x:Int),i=k∧xs[k]? =some x∧q x=true∧∀j<k,∀y,xs[j]? =some y→q y=false))∧St H1 w' (en::σ):=by
 obtain ⟨a,c,rfl⟩:=hO.yG;refine Cl.o func159 ntmps159 ag2 ?_;refine .ae (.zn zg (.seq (.ae (.z zm (.z (cJ af) (.zn zm (.for (N:=xs.length) (J:=fun k fr w=>fr=[(1,.func (.func g) #[] cap.toArray),(0,.slice a xs.length c)]∧∃H1,HLe H H1∧(∀j<k,∀y,xs[j]? =some y→q y=false)∧St H1 w (en::σ)) aj ?_ ?_ ?_)))))))
 ·exact .mk ⟨rfl,H,HLe.refl H,fun j hj=>by omega,hs⟩
 ·rintro k fr w hk ⟨rfl,H1,aq,fF,hs⟩;have hx:=bG hk;obtain ⟨b,c',sp,hv,rfl,_⟩:=hO.blk aj;cases hv
  refine .block (.ae (.z zm (.zn zg (.ae (.z zm (.z zm (.z zm (.z (zix af ak) (.q hs (fJ rfl ai (hv:=gD hk sp)) (.o (.ng (first:=[]) (cap:=cap) rfl rfl hc (hp _ _ _ (gi xs k) (List.mem_of_getElem? hx) aq hs) ?_)))))))))));rintro _ w ⟨H2,aO,rfl,hs⟩;refine .nil (.cond rfl (fun ee=>?_) (fun ee=>?_))
  ·exact .ae (.z zm (.zn zg (.ret (rB (rT (rB (rT (Fin.bp OK rfl ⟨H2,_,aq.trans aO,rfl,.inr ⟨k,_,rfl,hx,ee,fF⟩,hs⟩))))))))
  ·exact .skip (nB (nT (.mk ⟨rfl,H2,aq.trans aO,gv fF hx ee,hs⟩)))
 ·rintro fr w ⟨rfl,H1,aq,fF,hs⟩;refine nT (.ae (.zn zg (.ret (Fin.bp OK rfl ?_))));exact ⟨H1,_,aq,rfl,.inl ⟨rfl,fun x hx=>by
   obtain ⟨j,hj⟩:=List.getElem?_of_mem hx;exact fF j (List.getElem?_eq_some_iff.1 hj).1 x hj⟩,hs⟩
set_option maxHeartbeats 1000000 in
theorem pK{w:World}{v:Value}(q:Int→Bool)(hs:St H w (en::σ))(hO:bM 1 v (Is xs) en)(hl:xs.length≤17592186044416)(hc:∀args w,(callFunc g args).run Tryz.prog w= .ok (.enter g args) w)
  (hp:∀H' w σ (n:Int),n∈xs→HLe H H'→St H' w σ→aaA g ([I n]++cap) w fun u w'=>∃H1,HLe H' H1∧u= .bool (q n)∧St H1 w' σ):
  aaA 240 [v,.func (.func g) #[] cap.toArray] w fun u w'=>∃H1 iY,HLe H H1∧bM 1 u (Is (xs.filter fun x=> !q x)) iY∧St H1 w' (iY::σ):=by
 obtain ⟨a,c,rfl⟩:=hO.yG;refine Cl.o func240 ntmps240 ag2 ?_;refine .ae (.zn zg (.ae (.z zm (.z zm (.o (.call call159 rfl (rp q hs hO hl hc hp) ?_))))));rintro _ w ⟨H1,i0,aq,rfl,jJ,hs⟩;refine .zn zg (.seq (.ae (.z zm (.zn gO (.bX rfl (fun gS=>?_) (fun gS=>?_))))))
 ·refine .ae (.z zm (.zn zg (.ret (rT (Fin.bp results240 rfl ?_)))));have fF:∀x∈xs,q x=false:=by
   rcases jJ with ⟨_,h⟩|⟨k,x,h,_⟩
   ·exact h
   ·omega
  have e:xs.filter (fun x=> !q x)=xs:=List.filter_eq_self.2 fun x hx=>by simp [fF x hx]
  exact ⟨H1,en,aq,by rw [e];exact hO,hs⟩
 ·refine .skip (nT (.seq (.ae (.z zm ?_))));obtain ⟨k0,x0,rfl,C7,NN,fF⟩:∃(k:Nat) (x:Int),i0=k∧xs[k]? =some x∧q x=true∧∀j<k,∀y,xs[j]? =some y→q y=false:=jJ.resolve_left fun h=>gS h.1
  have K0:=(List.getElem?_eq_some_iff.1 C7).1;obtain ⟨b,c',sp,hv,rfl,Ek⟩:=hO.blk aj;cases hv
  refine .z cz (.zn zg (.block ?_));refine .loop (fun p:Nat×Nat=>⟨42,[],[(5,I (p.1:Int)),(6,I (p.2:Int)),(1,.func (.func g) #[] cap.toArray),(0,.slice (some ⟨b,0,none⟩) xs.length c)]⟩)
   (fun p w=>k0<p.2∧∃Y H1,HLe H H1∧Gr q xs Y p.1 p.2∧St H1 w (.blk b (Is Y++sp)::σ))
   (fun p=>xs.length - p.2) (k0,k0+1) (.cons rfl (.dP rfl (by dsimp only;omega) bk))
   ⟨by dsimp only;omega,xs,H1,aq,.start C7 NN fF,hs⟩ ?_
  clear hs aq jJ;rintro ⟨i,j⟩ w ⟨ZF,Y,H1,aq,hD,hs⟩;dsimp only at ZF hD ⊢;have Vw:=hD.len;have IA:=hD.le;have wT:=hD.jl;have hilt:=hD.lt C7 NN ZF;refine .seq (.ae (.z zm (.z zm (.z (cJ af) (.zn jt (.bX rfl (fun mB=>?_) (fun mB=>?_)))))))
  ·refine .skip (nT (.seq (.block (.ae (.z zm (.z zm ?_))))));have hj:j<Y.length:=by omega
   have hx:xs[j]? =some (gi Y j):=by rw [hD.rest j (Nat.le_refl _)];exact bG aj
   refine .z (zix af ak) (.q hs (fJ rfl ai (hv:=gD hj sp)) (.zn zg (.ae (.z zm (.z zm (.o (.ng (first:=[]) (cap:=cap) rfl rfl hc (hp _ _ _ (gi Y j) (List.mem_of_getElem? hx) aq hs) ?_)))))));rintro _ w ⟨H2,aO,rfl,hs⟩;refine .zn im (.cond rfl (fun nQ=>?_) (fun nQ=>?_))
   ·refine .ae (.z zm (.z zm (.z zm (.z (zix af ak) (.o (.store hs rfl rfl ak ?_ .here (qQ (show i<Y.length by omega) sp) (m8 (show i<Y.length by omega) sp _)))))));intro w hs;exact .nil (.region (.z zm (.z cz (.zn zg (nB (nT (.region (.z zm (.z cz (.zn zg (nT ⟨(i+1,j+1),.dP rfl (by dsimp only;omega) (.dP rfl (by dsimp only;omega) bk),⟨by dsimp only;omega,_,H2,aq.trans aO,hD.keep hx (by simpa using nQ),hs⟩,by dsimp only;omega⟩)))))))))))
   ·exact .skip (nB (nT (.region (.z zm (.z cz (.zn zg (nT ⟨(i,j+1),.cons rfl (.dP rfl (by dsimp only;omega) bk),⟨by dsimp only;omega,_,H2,aq.trans aO,hD.skip hx (by simpa using nQ),hs⟩,by dsimp only;omega⟩)))))))
  ·refine .exit (xT (xT (xB (nT (.ae (.z zm (.z zm ?_)))))));obtain rfl:xs.length=j:=by omega
   refine .q hs (DJ (k:=i) rfl rfl af ak aj aj) ?_;rw [show 0+i*1=i by omega];refine .o (.UC (c:=Is Y++sp) hs rfl af du (by simp;omega) ?_);intro w hs;rw [hD.done sp] at hs;have si:=hD.il;rw [List.take_length] at si;exact .nil (.ae (.z zm (.z zm (.q hs (yS (k:=i) rfl rfl af ak aj) (.zn zg (.ret (Fin.bp results240 rfl ⟨H1,_,aq,.inr ⟨b,i,c,List.replicate (xs.length - i) (I 0)++sp,rfl,rfl,by simp [si],by simp [←si];omega,aj⟩,hs⟩)))))))
def A3(L:List Int):List (List Value):=(List.range L.length).map fun j=>[I ((L.length - 1 - j:Nat):Int),I (gi L (L.length - 1 - j))]
theorem nH(L:List Int):(A3 L).length=L.length:=by simp [A3]
theorem EI{j:Nat}(h:j<(A3 L).length):(A3 L)[j]=[I ((L.length - 1 - j:Nat):Int),I (gi L (L.length - 1 - j))]:=by simp [A3]
theorem pM{v:Value}(hb:Row H b [v])(hr:RI H v L):Iter Tryz.prog 273 [Pt b] H (A3 L):=by
 intro l II Ix _ _ hy H0 Dr σf w hle Ak hs;obtain ⟨a,c,rfl⟩:=RI.shape hr;have hlen:=(RI.len hr).2.2;have Fa:cellAt H0 b 0=some (.slice a L.length c):=cellAt.mono (hb.at 0) hle;refine Cl.o func273 ntmps273 ag2 ?_;refine .ae (.y hs (zld an) (.z (cJ af) (.z iw (.zn zg (.block ?_)))));refine .loop (fun j:Nat=>⟨19,[],[(3,I ((L.length:Int) - 1 - (j:Int))),(0,.func (.yield l) #[] #[]),(1,Pt b)]⟩)
  (fun j w=>j≤L.length∧∃H1 σb,HLe H H1∧HLe H0 H1∧II j H1 σb∧St H1 w (σb++σf)) (fun j=>L.length - j) 0 (.dP rfl br bk)
  ⟨Nat.zero_le _,H0,Dr,hle,HLe.refl _,Ak,hs⟩ ?_
 clear hs Ak;rintro j w ⟨hj,H1,σb,aq,eZ,hI,hs⟩;have BH:cellAt H1 b 0=some (.slice a L.length c):=cellAt.mono Fa eZ;refine .seq (.ae (.z zm (.zn Bd (.bX rfl (fun Db=>?_) (fun Db=>?_)))))
 ·refine .skip (nT (.seq (.block (.ae (.z zm (.z zm (.y hs (zld an) (.z zm (.ixY hs (hr.mono aq) rfl rfl af ak (bG (l:=L) (i:=L.length - 1 - j) aj) aj ?_)))))))));intro Df o15 iL;refine .q hs (aP rfl ai iL) ?_;have rG:j<(A3 L).length:=by rw [nH];omega
  have xx:=hy j rG H1 σb σf w aq hI hs;rw [EI rG,show ((L.length - 1 - j:Nat):Int)=(L.length:Int) - 1 - (j:Int) by omega] at xx;refine .o (.yield rfl rfl xx ?_);rintro v17 w ⟨H2,σ2,g1,hs,g3⟩;obtain ⟨bb,rfl,gT,gF⟩:=oH g3;refine .zn im (.cond rfl (fun kI=>?_) (fun kI=>?_))
  ·exact .ret (rB (rT (rT (rB (Fin.Qu results273 ⟨H2,σ2,eZ.trans g1,hs,.inr (gF (by simpa using kI))⟩)))))
  ·exact .skip (nB (nT (.region (.z zm (.z iw (.zn zg (nT ⟨j+1,.dP rfl (by simp;omega) bk,⟨aj,H2,σ2,aq.trans g1,eZ.trans g1,gT (by simpa using kI),hs⟩,aj⟩)))))))
 ·refine .exit (xT (xT (xB ?_)));obtain rfl:L.length=j:=by omega
  exact Fin.yg results273 ⟨H1,σb,eZ,hs,.inl (by rw [nH];exact hI)⟩
theorem rq{w:World}{v:Value}(hs:St H w σ)(hr:RI H v L):
  aaA 238 [v] w fun u w'=>∃H1 b,HLe H H1∧u= .func (.func 273) #[] #[Pt b]∧Iter Tryz.prog 273 [Pt b] H1 (A3 L)∧St H1 w' σ:=by
 obtain ⟨a,c,rfl⟩:=RI.shape hr;refine Cl.o func238 ntmps238 ag1 ?_;refine .ae (.bx hs fun b1 w hs=>?_);refine .zn zg (.ae (.q hs (cV (f:=[]) (c:=[_]) rfl rfl) (.zn zg (.ret (Fin.bp results238 rfl ?_)))));obtain ⟨H1,g1,g2,hs⟩:=hs.bQ .here;exact ⟨H1,b1,g1,rfl,pM g2 (hr.mono g1),hs⟩
theorem xH{w:World}{n m:Int}(hs:St H w σ)(hb:Row H b [I m]):
  aaA 241 [I n,Pt b] w fun u w'=>u= .bool (decide (n=m))∧St H w' σ:=by
 have Fa:cellAt H b 0=some (I m):=hb.at 0;refine Cl.o func241 ntmps241 ag2 ?_;exact .ae (.zn zg (.ae (.z zm (.y hs (zld ai) (.z gO (.zn zg (.ret (Fin.bp results241 rfl ⟨rfl,hs⟩))))))))
set_option maxHeartbeats 1000000 in
theorem tk{w:World}{v:Value}{s:cN}(hs:St H w σ)(hr:RSy H v s):
  aaA 198 [v] w fun u w'=>∃H1 vx out e,HLe H H1∧u= .tuple #[vx,I e]∧RI H1 vx out∧Gs s out e∧St H1 w' σ:=by
 obtain ⟨ul,rfl,hl⟩:=hr;obtain ⟨al,cl,rfl⟩:=RL.shape hl;refine Cl.o func198 ntmps198 ag1 ?_;refine .ae (.bx hs fun b1 w hs=>?_);refine .z zg (.zn zg (.seq (.ae (.y hs (zls [_,_] bZ aZ) (.o (.call call113 rfl (jV (s:=s) hs ⟨_,rfl,hl⟩) ?_))))));rintro _ w ⟨rfl,hs⟩;refine .zn zg (.ae (.z zm (.zn gE (.eN rfl (fun gS=>?_) (fun gS=>?_)))))
 ·exact .ae (.z zm (.z zg (.zn zg (.ret (rT ((Fin.iz [] [] hs fun w hs=>⟨_,results2 results198 rfl rfl,H,_,[],_,HLe.refl H,rfl,RS.nil H 1 none 0,.bad gS,hs.out⟩)))))))
 ·refine .skip (nT (.seq (.ae (.y hs (zls [_,_] bZ aZ) ?_))));have bh:s.Ok:=s.dt.1 (by simpa using gS);have Ah:=bh.len;refine .o (.call call139 rfl (kQ (s:=s) hs bh ⟨_,rfl,hl⟩) ?_);rintro _ w ⟨H1,bb,aq,rfl,Dd,hs⟩;refine .nil (.cond rfl (fun iL=>?_) (fun iL=>?_))
  ·exact .ae (.z zg (.zn zg (.ret (rT ((Fin.iz [] [] hs fun w hs=>⟨_,results2 results198 rfl rfl,H1,_,[],_,aq,rfl,RS.nil H1 1 none 0,.none bh (Dd.1 iL),hs.out⟩))))))
  ·refine .skip (nT (.ae (.y hs (zls [_,_] bZ aZ) ?_)));have W6:¬s.Sound:=fun h=>by rw [Dd.2 h] at iL;cases iL
   refine .o (.call call237 rfl (nE (s:=s) hs ⟨_,rfl,hl.mono aq⟩ aj) ?_);rintro v17 w ⟨L,en,hO,hLl,PF,hs⟩;obtain ⟨a17,l17,c17,rfl,h17⟩:=hO.shape;refine .o (.alloc hs gY rfl fun b5 w hs=>?_);refine .o (.store hs rfl rfl aJ fun w hs=>?_);refine .nil (.seq (.ae (.y hs (zls [_,_] bZ aZ) (.o (.call call237 rfl (nE (s:=s) hs ⟨_,rfl,hl.mono aq⟩ aj) ?_)))));rintro v19 w ⟨L',iY,Ob,hLl',Rq,hs⟩;obtain rfl:L=L':=PF.uniq Rq;obtain ⟨H2,aO,Yi,hs⟩:=bM.ck Ob aj hs .here;refine .o (.call call238 rfl (rq hs Yi) ?_);rintro _ w ⟨H3,PV,bP,rfl,oG,hs⟩;have eO:=aq.trans (aO.trans bP);refine .nil (.block ?_);refine .rangeFunc (gf:=273) (cap:=[Pt PV]) (xs:=A3 L) (σb:=[.blk b1 [I s.many,.slice al s.cu.length cl],.blk b5 [.slice a17 l17 c17],en]) (σf:=σ) (hs.sb:St H3 w (.blk b1 _:: .blk b5 _::en::σ)) trivial rfl oG call273 (fun x hx=>by
     simp only [A3,List.mem_map] at hx;obtain ⟨j,_,rfl⟩:=hx;rfl) rfl
    (I:=fun j H' σb=>∃(t:cN) (ut vo:Value) (out:List Int) (en:Ent),σb=[.blk b1 [I t.many,ut],.blk b5 [vo],en]∧RL H' ut t.cu∧bM 1 vo (Is out) en∧out.length≤L.length∧t.Ok∧Ab s L (L.length - j) t out) (Ix:=fun _ _ _=>False)
    (fun j _ _ σ g1 ⟨t,ut,vo,out,en,g2,g3,g4⟩=>⟨t,ut,vo,out,en,g2,g3.mono g1,g4⟩) (fun _ _ _ _ _ h=>h)
    ⟨s,_,_,L,en,rfl,hl.mono eO,hO,Nat.le_refl _,bh,.start⟩ ?_ ?_ (fun D c H' σb w _ h _=>h.elim)
   ·rintro l j hj H4 wH wG w eL ⟨t,ut,vo,out,en,rfl,Vc,Sm,Zt,KJ,hC⟩ hs ⟨rr,GV⟩;rw [EI hj];have hjL:j<L.length:=by rw [nH] at hj;exact hj
    obtain ⟨at',ct,rfl⟩:=RL.shape Vc;obtain ⟨ao,lo,co,rfl,Da⟩:=Sm.shape;refine .region (.o (.alloc hs du rfl fun b7 w hs=>?_));refine .o (.store hs rfl rfl ak fun w hs=>?_);refine .nil (nT ⟨H4,[.blk b7 [I (gi L (L.length - 1 - j))],.blk b1 [I t.many,.slice at' t.cu.length ct],.blk b5 [.slice ao lo co],en],HLe.refl _,hs,?_⟩);rintro w nJ - hs;refine .block (.ae (.y hs (zls [_,_] bZ aZ) (.y hs (zld ai) (.o (.buildSlice (cells:=[_]) hs bJ rfl rfl fun I4 w hs=>?_)))));obtain ⟨H5,eV,r25,hs⟩:=bM.ck (xs:=[gi L (L.length - 1 - j)]) (v:= .slice (some ⟨I4,0,none⟩) 1 1) (.full (len:=1) rfl) br hs dr;refine .o (.call call239 rfl (uF (s:=t) hs ⟨_,rfl,Vc.mono eV⟩ r25 (by have:=KJ.len;omega)) ?_);rintro _ w ⟨H6,kH,⟨u26,rfl,Rr⟩,hs⟩;obtain ⟨a26,c26,rfl⟩:=RL.shape Rr;refine .o (.alloc hs fP rfl fun b8 w hs=>?_);refine .o (.aD (vs:=[_,_]) hs rfl rfl aZ fun w hs=>?_);refine .nil (.ae (.y hs (zls [_,_] bZ aZ) (.o (.call call139 rfl (kQ (s:=t.wo [gi L (L.length - 1 - j)]) hs (KJ.wo _) ⟨_,rfl,Rr⟩) ?_))));rintro _ w ⟨H7,Sy,zx,rfl,F8,hs⟩;have KV:=eV.trans (kH.trans zx);refine .zn im (.cond rfl (fun nQ=>?_) (fun nQ=>?_))
    ·refine .ae (.y hs (zls [_,_] bZ aZ) (.o (.aD (vs:=[_,_]) hs rfl rfl aZ fun w hs=>?_)));refine .nil (.region (.y hs (zld an) (.q hs (cV (f:=[]) (c:=[_]) rfl rfl) ?_)));obtain ⟨H8,FZ,r7,hs⟩:=hs.bQ (b:=b7) dr;replace hs:St H8 w (en:: .blk b1 [I t.many,.slice a26 (t.wo [gi L (L.length - 1 - j)]).cu.length c26]:: .blk b5 [.slice ao lo co]::nJ):=hs.sb;refine .o (.call call240 rfl (pK (g:=241) (cap:=[Pt b7]) (fun n=>decide (n=gi L (L.length - 1 - j))) hs Sm aj call241
      (fun H' w σ n _ hle hs=>(xH hs (r7.mono hle)).mono fun u w' ⟨g1,g2⟩=>⟨H',HLe.refl _,g1,g2⟩)) ?_);rintro v33 w ⟨H9,en9,NQ,Z8,hs⟩
     obtain ⟨a33,l33,c33,rfl,h33⟩:=Z8.shape;refine .o (.store hs rfl rfl aJ fun w hs=>?_);refine .nil (nB ?_);have G3:=List.length_filter_le (fun n=> !decide (n=gi L (L.length - 1 - j))) out;have e:L.length - (j+1)=L.length - 1 - j:=by omega
     have W5:¬(t.wo [gi L (L.length - 1 - j)]).Sound:=fun h=>by rw [F8.2 h] at nQ;cases nQ
     exact ⟨H9,[.blk b1 [I t.many,.slice a26 (t.wo [gi L (L.length - 1 - j)]).cu.length c26],.blk b5 [.slice a33 l33 c33],en9],KV.trans (FZ.trans NQ),(hs.sb:St H9 w (.blk b1 _:: .blk b5 _::en9::nJ)),t.wo [gi L (L.length - 1 - j)],_,_,_,_,rfl,Rr.mono (zx.trans (FZ.trans NQ)),Z8,aj,KJ.wo _,by
      rw [e];exact .drop (by rw [show L.length - 1 - j+1=L.length - j by omega];exact hC) W5⟩
    ·refine .skip (nB ?_);have e:L.length - (j+1)=L.length - 1 - j:=by omega
     have WL:(t.wo [gi L (L.length - 1 - j)]).Sound:=F8.1 (by simpa using nQ);exact ⟨H7,[.blk b1 [I t.many,.slice at' t.cu.length ct],.blk b5 [.slice ao lo co],en],KV,(hs.sb:St H7 w (.blk b1 _:: .blk b5 _::en::nJ)),t,_,_,_,_,rfl,Vc.mono KV,Sm,Zt,KJ,by
      rw [e];exact .keep (by rw [show L.length - 1 - j+1=L.length - j by omega];exact hC) WL⟩
   ·rintro D H4 wH w eL ⟨t,ut,vo,out,en,rfl,Vc,Sm,Zt,KJ,hC⟩ hs;rw [nH,Nat.sub_self] at hC;obtain ⟨ao,lo,co,rfl,Da⟩:=Sm.shape;replace hs:St H4 w (.obj D (.deferred (some [])):: .blk b1 [I t.many,ut]:: .blk b5 [.slice ao lo co]::en::σ):=hs;refine nB (nT (.ae (.y hs (zld an) (.z zg (.zn zg (.ret ?_))))));obtain ⟨H5,eV,Vz,hs⟩:=bM.ck Sm aj hs dr;exact Fin.iz [D] [] hs fun w hs=>⟨_,results2 results198 rfl rfl,H5,_,out,0,eO.trans (eL.trans eV),rfl,Vz,.ok bh W6 PF hC,hs.out⟩
theorem pJ{w:World}{v:Value}(q:Int→Prop)(hs:St H w σ)(hR:RI H v xs)(hc:∀args w,(callFunc g args).run Tryz.prog w= .ok (.enter g args) w)
  (hp:∀H' w σ (n:Int),n∈xs→HLe H H'→St H' w σ→aaA g ([I n]++cap) w fun u w'=>∃H1 b,HLe H' H1∧u= .bool b∧(b=true↔q n)∧St H1 w' σ):
  aaA 159 [v,.func (.func g) #[] cap.toArray] w fun u w'=>∃H1 i,HLe H H1∧u=I i∧(0≤i↔∃x∈xs,q x)∧St H1 w' σ:=by
 obtain ⟨a,c,rfl⟩:=RI.shape hR;have hl:=(RI.len hR).2.2;refine Cl.o func159 ntmps159 ag2 ?_;refine .ae (.zn zg (.seq (.ae (.z zm (.z (cJ af) (.zn zm (.for (N:=xs.length) (J:=fun k fr w=>fr=[(1,.func (.func g) #[] cap.toArray),(0,.slice a xs.length c)]∧∃H1,HLe H H1∧(∀j<k,∀y,xs[j]? =some y→¬q y)∧St H1 w σ) aj ?_ ?_ ?_)))))))
 ·exact .mk ⟨rfl,H,HLe.refl H,fun j hj=>by omega,hs⟩
 ·rintro k fr w hk ⟨rfl,H1,aq,fF,hs⟩;obtain ⟨x,hx⟩:=nth hk;refine .block (.ae (.z zm (.zn zg (.ae (.z zm (.z zm (.z zm (.ixY hs (hR.mono aq) rfl rfl af ak hx rfl ?_))))))));intro tt o14 iW;refine .q hs (aP rfl ai iW) (.o (.ng (first:=[]) (cap:=cap) rfl rfl hc (hp _ _ _ x (List.mem_of_getElem? hx) aq hs) ?_));rintro _ w ⟨H2,w7,aO,rfl,tc,hs⟩;refine .nil (.cond rfl (fun ee=>?_) (fun ee=>?_))
  ·exact .ae (.z zm (.zn zg (.ret (rB (rT (rB (rT (Fin.bp OK rfl ⟨H2,_,aq.trans aO,rfl,⟨fun _=>⟨x,List.mem_of_getElem? hx,tc.1 ee⟩,fun _=>by omega⟩,hs⟩))))))))
  ·exact .skip (nB (nT (.mk ⟨rfl,H2,aq.trans aO,gv fF hx (fun h=>by rw [tc.2 h] at ee;cases ee),hs⟩)))
 ·rintro fr w ⟨rfl,H1,aq,fF,hs⟩;refine nT (.ae (.zn zg (.ret (Fin.bp OK rfl ?_))));exact ⟨H1,_,aq,rfl,⟨fun h=>by omega,fun ⟨x,h1,h2⟩=>by
   obtain ⟨j,hj⟩:=List.getElem?_of_mem h1;exact (fF j (List.getElem?_eq_some_iff.1 hj).1 x hj h2).elim⟩,hs⟩
theorem nL{w:World}{v:Value}(q:Int→Prop)(hs:St H w σ)(hR:RI H v xs)(hc:∀args w,(callFunc g args).run Tryz.prog w= .ok (.enter g args) w)
  (hp:∀H' w σ (n:Int),n∈xs→HLe H H'→St H' w σ→aaA g ([I n]++cap) w fun u w'=>∃H1 b,HLe H' H1∧u= .bool b∧(b=true↔q n)∧St H1 w' σ):
  aaA 89 [v,.func (.func g) #[] cap.toArray] w fun u w'=>∃H1 b,HLe H H1∧u= .bool b∧(b=true↔∃x∈xs,q x)∧St H1 w' σ:=by
 refine Cl.o func89 ntmps89 ag2 ?_;refine .ae (.zn zg (.ae (.z zm (.z zm (.o (.call call159 rfl (pJ q hs hR hc hp) ?_))))));rintro _ w ⟨H1,i,aq,rfl,hi,hs⟩;exact .z Bd (.zn zg (.ret (Fin.bp results89 rfl ⟨H1,_,aq,rfl,by simp only [decide_eq_true_eq];exact hi,hs⟩)))
theorem sC{w:World}(hs:St H w σ):aaA 205 [I a0,I a1,I a2] w fun v w'=>v= .bool (decide (a1≤a0∧a0≤a2))∧St H w' σ:=by
 refine Cl.o func205 ntmps205 ag3 ?_;refine .ae (.zn zg (.ae (.z zm (.z zm (.z rl (.z zm (.mW (t':=10) rfl (fun qy=>?_) (fun qy=>?_))))))))
 ·exact .T (.z zm (.T (.z zm (.T (.z rl (.z zpT (.zn zg (.ret (Fin.bp results205 rfl ⟨by simp [*],hs.out⟩)))))))))
 ·exact .Fs 3 3 true (.z zpF (.zn zg (.ret (Fin.bp results205 rfl ⟨by simp [*],hs.out⟩))))
theorem jz{w:World}{v:Value}{l:List Int}{many:Nat}(hs:St H w σ)(hr:RI H v l):
  aaA 133 [v,I many,I most] w fun v w'=>∃b:Bool,v= .bool b∧(b=true↔iZ many most l)∧St H w' σ:=by
 obtain ⟨a,c,rfl⟩:=RI.shape hr;have hlen:=(RI.len hr).2.2;refine Cl.o func133 ntmps133 ag3 ?_;refine .ae (.zn zg (.seq (.ae (.z zm (.z (cJ af) (.z zm (.o (.call call205 rfl (sC hs) ?_))))))));rintro _ w ⟨rfl,hs⟩;refine .z im (.z zm (.bif (t':=14) rfl (fun Li=>?_) (fun Li=>?_)))
 ·exact .Fs 4 5 false (.z zpT (.z zm (.Fs 8 11 false (.zn zpT (.cT (.ae (.zn zg (.ret (rT (Fin.bp results133 rfl ⟨false,rfl,⟨fun h=>(by cases h),fun h=>by have:=h.two;have:=h.many;simp at Li;omega⟩,hs⟩))))))))))
 ·refine .T (.z zm (.T ?_));have QT:2≤l.length∧l.length≤many:=by simp at Li;omega
  refine .ixY hs hr rfl rfl af ak (bG (l:=l) (i:=0) aj) dD ?_;intro w7 o16 ee;refine .T (.q hs (aP rfl ai ee) (.T (.z jt (.z zpF (.z zm (.mW (t':=20) rfl (fun N7=>?_) (fun N7=>?_)))))))
  ·exact .Fs 8 11 false (.zn zpT (.cT (.ae (.zn zg (.ret (rT (Fin.bp results133 rfl ⟨false,rfl,⟨fun h=>(by cases h),fun h=>by have:=h.low;omega⟩,hs⟩)))))))
  ·refine .T (.z zm (.T (.z zm (.T (.z (cJ af) (.T (.z iw (.T (.ixY hs hr rfl rfl af ak (bG (l:=l) (i:=(l.length - 1)) aj) dD ?_)))))))));intro I4 o25 kA;refine .T (.q hs (aP rfl ai kA) (.T (.z zm (.T (.z q5 (.zn zpF (.bX rfl (fun nQ=>?_) (fun nQ=>?_))))))))
   ·exact .ae (.zn zg (.ret (rT (Fin.bp results133 rfl ⟨false,rfl,⟨fun h=>(by cases h),fun h=>by have:=h.high;omega⟩,hs⟩))))
   ·refine .skip (nT (.seq (.ae (.z zm (.q hs (J2 (k:=1) rfl rfl af ak aj aj) (.z (cJ af) (.zn zm (.for (N:=l.length - 1) (J:=fun k fr w=>fr=[(31,.slice (if c=1 then a else a.map (·.add (1*1))) (l.length - 1) (c - 1)),(0,.slice a l.length c)]∧(∀j<k,gi l j<gi l (j+1))∧St H w σ) aj ?_ ?_ ?_))))))))
    ·exact .mk ⟨rfl,fun j hj=>by omega,hs⟩
    ·rintro k fr w hk ⟨rfl,fF,hs⟩;have ht:=hr.tail (k:=1) aj;have hx:(l.drop 1)[k]? =some (gi l (k+1)):=by rw [List.getElem?_drop,Nat.add_comm];exact bG aj
     refine .block (.ae (.z zm (.ixY hs ht rfl rfl af ak hx rfl ?_)));intro VM o36 wc;refine .q hs (aP rfl ai wc) (.z zg (.zn zg (.ae (.z zm (.z zm (.ixY hs hr rfl rfl af ak (bG (l:=l) (i:=k) aj) dD ?_))))));intro UI o40 vZ;refine .q hs (aP rfl ai vZ) (.z zm (.zn Bd (.bX rfl (fun N3=>?_) (fun N3=>?_))))
     ·exact .ae (.zn zg (.ret (rB (rT (rB (rT (Fin.bp results133 rfl ⟨false,rfl,⟨fun h=>(by cases h),fun h=>by have:=h.rise k aj;omega⟩,hs⟩)))))))
     ·refine .skip (nB (nT ?_));exact .mk ⟨rfl,fun j hj=>by
       by_cases e:j=k
       ·subst e;omega
       ·exact fF j aj,hs⟩
    ·rintro fr w ⟨rfl,fF,hs⟩;exact nT (.ae (.zn zg (.ret (Fin.bp results133 rfl ⟨true,rfl,⟨fun _=>⟨aj,aj,aj,aj,fun i hi=>fF i aj⟩,fun _=>rfl⟩,hs⟩))))
theorem pH{w:World}{v:Value}{l:List Int}(hs:St H w σ)(hr:RI H v l):
  aaA 70 [v] w fun v w'=>∃e,v=I e∧((iZ 9 100000 l∧e=0)∨(¬iZ 9 100000 l∧e≠0))∧St H w' σ:=by
 obtain ⟨a,c,rfl⟩:=RI.shape hr;refine Cl.o func70 ntmps70 ag1 ?_;refine .ae (.zn zg (.seq (.ae (.z zm (.o (.call call133 rfl (jz (many:=9) (most:=100000) hs hr) ?_))))));rintro _ w ⟨b4,rfl,Vv,hs⟩;refine .zn im (.cond rfl (fun Rf=>?_) (fun Rf=>?_))
 ·exact .ae (.zn zg (.ret (rT (Fin.bp results70 rfl ⟨_,rfl,.inr ⟨fun h=>by simp [Vv.2 h] at Rf,by decide⟩,hs⟩))))
 ·exact .skip (nT (.ae (.zn zg (.ret (Fin.bp results70 rfl ⟨_,rfl,.inl ⟨Vv.1 (by simpa using Rf),rfl⟩,hs⟩)))))
theorem jO{w:World}{b:Int}(hs:St H w σ)(ha:0<a)(hb:0<b∧b≤100000):
  aaA 136 [I a,I b] w fun v w'=>v=I (rat a b)∧St H w' σ:=by
 have h1:0≤b.tdiv a:=Int.tdiv_nonneg aj aj;have h2:b.tdiv a≤b:=by rw [Int.tdiv_eq_ediv_of_nonneg aj];exact Int.ediv_le_self _ aj
 have hw:=nO (m:=b.tdiv a) ⟨aj,aj⟩;refine Cl.o func136 ntmps136 ag2 ?_;refine .ae (.zn zg (.seq (.ae (.z zm (.z zm (.z E2 (.z gO (.z zm (.mW (t':=9) rfl (fun Ug=>?_) (fun Ug=>?_))))))))))
 ·refine .T (.z zm (.T (.z zm (.T (.z R5 (.T (.z rl (.zn zpT (.bX rfl (fun iW=>?_) (fun iW=>?_))))))))))
  ·refine .ae (.z zm (.z zm (.z R5 (.zn zg (.ret (rT (Fin.bp results136 rfl ?_)))))));rw [hw] at iW ⊢;exact ⟨by unfold rat;rw [if_pos ⟨by assumption,by assumption⟩],hs⟩
  ·refine .skip (nT (.ae (.zn zg (.ret (Fin.bp results136 rfl ?_)))));rw [hw] at iW;exact ⟨by unfold rat;rw [if_neg aj],hs⟩
 ·exact .Fs 4 4 true (.zn zpF (.cF (.skip (nT (.ae (.zn zg (.ret (Fin.bp results136 rfl ⟨by unfold rat;rw [if_neg aj],hs⟩))))))))
def uu(l:List Int):List (List Value):=(CA l).map fun g=>[Value.agg #[I (g.at_:Int),I (g.n:Int)]]
theorem Jx{l:List Int}(hp:iZ 9 100000 l){i:Nat}(h:i+2<l.length):iy l i=true↔0<rat (gi l (i+1) - gi l i) (gi l (i+2) - gi l (i+1))∨0<rat (gi l (i+2) - gi l (i+1)) (gi l (i+1) - gi l i):=by
 have h1:=hp.rise i aj;have h2:gi l (i+1)<gi l (i+2):=hp.rise (i+1) aj;unfold iy;rw [JD aj aj];simp only [Bool.and_eq_true,decide_eq_true_eq];omega
theorem sD{v:Value}{l:List Int}(hp:iZ 9 100000 l)(hb:Row H b [v])(hr:RI H v l):Iter Tryz.prog 206 [Pt b] H (uu l):=by
 intro ly II Ix _ _ hy H0 Dr σf w hle Ak hs;obtain ⟨a,c,rfl⟩:=RI.shape hr;have hlen:=hp.many;have Fa:cellAt H0 b 0=some (.slice a l.length c):=cellAt.mono (hb.at 0) hle;refine Cl.o func206 ntmps206 ag2 ?_;refine .ae (.zn zg (.block ?_));refine .loop (fun i:Nat=>⟨59,[],[(3,I (i:Int)),(0,.func (.yield ly) #[] #[]),(1,Pt b)]⟩)
  (fun i w=>i≤l.length∧∃j,j≤(CA l).length∧(CA l).drop j=sj l i∧∃H1 σb,HLe H H1∧HLe H0 H1∧II j H1 σb∧St H1 w (σb++σf)) (fun i=>l.length - i) 0 (.dP rfl br bk)
  ⟨Nat.zero_le _,0,Nat.zero_le _,rfl,H0,Dr,hle,HLe.refl _,Ak,hs⟩ ?_
 clear hs Ak;rintro i w ⟨si,j,hj,hd,H1,σb,aq,eZ,hI,hs⟩;have BH:cellAt H1 b 0=some (.slice a l.length c):=cellAt.mono Fa eZ;refine .seq (.ae (.z zm (.z cz (.y hs (zld an) (.z (cJ af) (.zn jt (.bX rfl (fun ta=>?_) (fun ta=>?_))))))))
 ·refine .skip (nT (.block (.ae (.z zm (.z (zbd [_,_] CV) (.o (.alloc hs zeroValue249 rfl fun b4 w hs=>?_)))))));refine .o (.aD (vs:=[_,_]) hs rfl rfl sizeOf249 fun w hs=>?_);refine .nil (.cut (fun fs w=>np fs ⟨59,[],[(4,Pt b4),(3,I (i:Int)),(0,.func (.yield ly) #[] #[]),(1,Pt b)]⟩∧St H1 w (.blk b4 [I (i:Int),I (((if iy l i then 2 else 1:Nat)):Int)]::(σb++σf))) ?_ ?_)
  ·refine .ae (.z zm (.z cz (.y hs (zld an) (.z (cJ af) (.zn jt (.bX rfl (fun kI=>?_) (fun kI=>?_)))))))
   ·refine .seq (.draw mix rfl hs fun w hs=>?_);refine .y 0 rfl hs an ?_;refine .z 1 rfl zm ?_;refine .z 2 rfl cz ?_;have r1:=hp.rise i aj;have r2:gi l (i+1)<gi l (i+2):=hp.rise (i+1) aj;have IC:=Jx hp (i:=i) aj;have q1:=hp.bd (i:=i) aj;have q2:=hp.bd (i:=i+2) aj;refine .ixX (enc:=fun x=>[I x]) (i:=3) hs rfl au .none (hr.mono aq) rfl rfl af ak (bG (l:=l) (i:=(i+1)) aj) dD ?_;intro RM o22 jv;replace jv:=bE.one jv;refine .r (i:=4) hs rfl au .none (aP rfl ai jv) ?_;refine .y 5 rfl hs an ?_;refine .z 6 rfl zm ?_;refine .ixX (enc:=fun x=>[I x]) (i:=7) hs rfl au .none (hr.mono aq) rfl rfl af ak (bG (l:=l) (i:=i) aj) dD ?_;intro VP o26 jC;replace jC:=bE.one jC;refine .r (i:=8) hs rfl au .none (aP rfl ai jC) ?_;refine .zw 9 rfl iw ?_;refine .y 10 rfl hs an ?_;refine .z 11 rfl zm ?_;refine .z 12 rfl cz ?_;refine .ixX (enc:=fun x=>[I x]) (i:=13) hs rfl au .none (hr.mono aq) rfl rfl af ak (bG (l:=l) (i:=(i+2)) aj) dD ?_;intro VO o32 Cx;replace Cx:=bE.one Cx;refine .r (i:=14) hs rfl au .none (aP rfl ai Cx) ?_;refine .y 15 rfl hs an ?_;refine .z 16 rfl zm ?_;refine .z 17 rfl cz ?_;refine .ixX (enc:=fun x=>[I x]) (i:=18) hs rfl au .none (hr.mono aq) rfl rfl af ak (bG (l:=l) (i:=(i+1)) aj) dD ?_;intro OB o37 wb;replace wb:=bE.one wb;refine .r (i:=19) hs rfl au .none (aP rfl ai wb) ?_;refine .zw 20 rfl iw ?_;refine .z 21 rfl zg ?_;refine .z 22 rfl zg ?_;refine .D hs ?_;refine .ae (.z zm (.z zm (.o (.call call136 rfl (jO hs aj aj) ?_))));rintro _ w ⟨rfl,hs⟩;refine .z q5 (.z zm (.mW (t':=44) rfl (fun IM=>?_) (fun IM=>?_)))
    ·refine .Fs 4 4 false (.zn zpT (.cT (.region (.z (zfa lF) (.o (.store hs rfl rfl ak fun w hs=>?_))))));refine .nil (nT ?_);rw [IC.2 (.inl IM)];exact ⟨bk,hs⟩
    ·refine .T (.z zm (.T (.z zm (.T (.o (.call call136 rfl (jO hs aj aj) ?_))))));rintro _ w ⟨rfl,hs⟩;refine .T (.z q5 (.zn zpF (.bX rfl (fun AT=>?_) (fun AT=>?_))))
     ·refine .region (.z (zfa lF) (.o (.store hs rfl rfl ak fun w hs=>?_)));refine .nil (nT ?_);rw [IC.2 (.inr AT)];exact ⟨bk,hs⟩
     ·refine .skip (nT ?_);rw [show iy l i=false from Bool.eq_false_iff.2 fun h=>by have:=IC.1 h;omega];exact ⟨bk,hs⟩
   ·refine .skip (nT ?_);rw [show iy l i=false by simp [iy];omega];exact ⟨bk,hs⟩
  ·rintro fs w ⟨i7,hs⟩;refine WE.sub ?_ i7;have Vn:=Ep (l:=l) (i:=i) aj;rw [Vn] at hd;have wT:j<(CA l).length:=by
    have:=congrArg List.length hd;simp at this;omega
   have hgj:(CA l)[j]=⟨i,iy l i⟩:=by
    rw [List.drop_eq_getElem_cons wT] at hd;exact (List.cons.inj hd).1
   have hdj:(CA l).drop (j+1)=sj l (i+(if iy l i then 2 else 1)):=by
    rw [List.drop_eq_getElem_cons wT] at hd;exact (List.cons.inj hd).2
   have hn12:(if iy l i then 2 else 1:Nat)=1∨(if iy l i then 2 else 1:Nat)=2:=by split<;>simp
   refine .seq (.ae (.z zm (.y hs (zls [_,_] isAgg249 sizeOf249) ?_)));have rG:j<(uu l).length:=by simpa [uu] using wT
   have xx:=hy j rG H1 σb (.blk b4 [I (i:Int),I (((if iy l i then 2 else 1:Nat)):Int)]::σf) w aq hI (St.deep hs);rw [show (uu l)[j]=[Value.agg #[I (i:Int),I (((if iy l i then 2 else 1:Nat)):Int)]] by simp only [uu,List.getElem_map,hgj];rfl] at xx;refine .o (.yield rfl rfl xx ?_);rintro v53 w ⟨H2,σ2,g1,hs,g3⟩;obtain ⟨bb,rfl,gT,gF⟩:=oH g3;replace hs:=St.shallow hs;refine .zn im (.cond rfl (fun N2=>?_) (fun N2=>?_))
   ·exact .ret (rT (rB (rT (rB (Fin.Qu results206 ⟨H2,σ2,eZ.trans g1,hs.tail,.inr (gF (by simpa using N2))⟩)))))
   ·refine .skip (nT (.region (.z zm (.z (zfa lF) (.y hs (zld ai) (.z cz (.zn zg (nB (nT ?_)))))))));generalize (if iy l i then 2 else 1:Nat)=n at*;exact ⟨i+n,.dP rfl br bk,⟨aj,j+1,wT,hdj,H2,σ2,aq.trans g1,eZ.trans g1,gT (by simpa using N2),hs.tail⟩,aj⟩
 ·refine .exit (xT (xT (xB ?_)));rw [BJ aj] at hd;have:(CA l).length≤j:=by simpa using hd
  obtain rfl:j=(CA l).length:=by omega
  exact Fin.yg results206 ⟨H1,σb,eZ,hs,.inl (by simpa [uu] using hI)⟩
theorem ve{w:World}{v:Value}{l:List Int}(hs:St H w σ)(hr:RI H v l)(hp:iZ 9 100000 l):
  aaA 135 [v] w fun u w'=>∃H1 b,HLe H H1∧u= .func (.func 206) #[] #[Pt b]∧Iter Tryz.prog 206 [Pt b] H1 (uu l)∧St H1 w' σ:=by
 obtain ⟨a,c,rfl⟩:=RI.shape hr;refine Cl.o func135 ntmps135 ag1 ?_;refine .ae (.bx hs fun b1 w hs=>?_);refine .zn zg (.ae (.q hs (cV (f:=[]) (c:=[_]) rfl rfl) (.zn zg (.ret (Fin.bp results135 rfl ?_)))));obtain ⟨H1,g1,g2,hs⟩:=hs.bQ .here;exact ⟨H1,b1,g1,rfl,sD hp g2 (hr.mono g1),hs⟩
theorem sa{w:World}{bs bW from_ n:Nat}{W:List Int}{v:Value}(hs:St H w (.blk bs [.slice (some ⟨bW,0,none⟩) n n]:: .blk bW (Is W)::σ))(hW:W.length=n)(hr:RI H v xs)(hl:from_+xs.length≤n)(hn:n≤9)
  (hz:bK W n≤1000000000) (ha:BR xs≤1000000000):
  aaA 134 [Pt bs,I (from_:Int),v] w fun _ w'=>St H w' (.blk bs [.slice (some ⟨bW,0,none⟩) n n]:: .blk bW (Is (nS W from_ xs))::σ):=by
 obtain ⟨a,c,rfl⟩:=RI.shape hr;have hlen:=(RI.len hr).2.2;refine Cl.o func134 ntmps134 ag3 ?_;refine .ae (.z zm (.z (cJ af) (.zn zm (.for (N:=xs.length) (J:=fun k fr w=>fr=[(8,.slice a xs.length c),(0,Pt bs),(1,I (from_:Int))]∧St H w (.blk bs [.slice (some ⟨bW,0,none⟩) n n]:: .blk bW (Is (nS W from_ (xs.take k)))::σ)) aj ?_ ?_ ?_))))
 ·exact .mk ⟨rfl,hs⟩
 ·rintro k fr w hk ⟨rfl,hs⟩;have En:=qT (xs.take k) W from_;have ui:=tv (xs.take k) W from_ (by rw [List.length_take];omega);rw [hW] at ui;have h1:=EN xs k;have h2:=LY xs k;have h3:=oI (nS W from_ (xs.take k)) (v:=from_+k) (n:=n) aj;have h4:=I7 hk W from_;refine .block (.ae (.z zm (.ixY hs hr rfl rfl af ak (bG (l:=xs) (i:=k) aj) dD ?_)));intro jG o13 iX;refine .q hs (aP rfl ai iX) (.z zg (.zn zg (.region (.z zm (.z znc (.z (zfa sm) (.y hs (zld an) (.z zm (.z zm (.z cz (.q hs (mN (k:=from_+k) rfl rfl af ak aj aj) (.y hs (zld ai) (.z zm (.z cz (.q hs (mN (k:=from_+k) rfl rfl af ak aj aj) (.o (.store hs rfl rfl ak fun w hs=>?_)))))))))))))))));exact .nil (nB (nT (.mk ⟨rfl,by rw [h4];exact hs⟩)))
 ·rintro fr w ⟨rfl,hs⟩;rw [List.take_length] at hs;exact Fin.yg results134 hs
theorem Im{b:Int}(ha:0<a∧a≤100000)(hb:0<b∧b≤100000):0≤min a b∧min a b≤100000:=by omega
theorem Qg{b:Int}(h:0<tms a b):tms a b=1∨tms a b=2∨tms a b=3:=by have:=OT a b;omega
set_option maxHeartbeats 1000000 in
theorem kC{w:World}{v:Value}{l:List Int}(hs:St H w σ)(hr:RI H v l)(hp:iZ 9 100000 l):
  aaA 71 [v] w fun u w'=>∃H1,HLe H H1∧RI H1 u (wts l)∧St H1 w' σ:=by
 obtain ⟨a,c,rfl⟩:=RI.shape hr;have ZC:=hp.many;have hgl:(CA l).length≤9:=by have:=wU l l.length 0;unfold CA;omega
 refine Cl.o func71 ntmps71 ag1 ?_;refine .ae (.bx hs fun b1 w hs=>?_);refine .zn zg (.ae (.y hs (zld an) (.z (cJ af) (.o (.DS l.length hs rfl rfl af uP rfl ak du aj fun jG w hs=>?_)))));refine .z (zbd [_] CS) (.o (.alloc hs zeroValue243 rfl fun b3 w hs=>?_));refine .o (.aD (vs:=[_]) hs rfl rfl sizeOf243 fun w hs=>?_);refine .nil (.ae (.q hs (cV (f:=[_]) (c:=[]) rfl rfl) (.o (.alloc hs zeroValue244 rfl fun b4 w hs=>?_))));refine .o (.store hs rfl rfl sizeOf244 fun w hs=>?_);refine .nil (.seq (.ae (.y hs (zld an) (.o (.call call135 rfl (ve hs hr hp) ?_)))));rintro _ w ⟨H1,tr,aq,rfl,oG,hs⟩;refine .nil (.block ?_);refine .rangeFunc (gf:=206) (cap:=[Pt tr]) (xs:=uu l) (σb:=[.blk b3 [.slice (some ⟨jG,0,none⟩) l.length l.length],.blk jG (Is (E3 l 0)),.blk b4 [.func (.func 134) #[Pt b3] #[]],.blk b1 [.slice a l.length c]]) (σf:=σ) (hs.sb) trivial rfl oG call206 (fun x hx=>by
   simp only [uu,List.mem_map] at hx;obtain ⟨j,_,rfl⟩:=hx;rfl) rfl
  (I:=fun j H' σb=>σb=[.blk b3 [.slice (some ⟨jG,0,none⟩) l.length l.length],.blk jG (Is (E3 l j)),.blk b4 [.func (.func 134) #[Pt b3] #[]],.blk b1 [.slice a l.length c]]) (Ix:=fun _ _ _=>False)
  (fun j _ _ σ g1 g2=>g2) (fun _ _ _ _ _ h=>h) rfl ?_ ?_ (fun D c H' σb w _ h _=>h.elim)
 ·rintro ly j hj H2 wH wG w aO rfl hs ⟨rr,GV⟩;have wT:j<(CA l).length:=by simpa [uu] using hj
  obtain ⟨g,hg⟩:=nth wT;rw [show (uu l)[j]=[Value.agg #[I (g.at_:Int),I (g.n:Int)]] by
   rw [List.getElem?_eq_getElem wT] at hg;simp only [uu,List.getElem_map,Option.some.inj hg]]
  obtain ⟨i1,i2,i3,i4,i5⟩:=Er hp (List.mem_of_getElem? hg);have hK:=Dt hg;have aag:=sA l j;have hKz:=Bf hp j aj;have Cw:=hr.mono (aq.trans aO);have NN:=hp.bd (i:=g.at_) aj;have Pe:=hp.bd (i:=g.at_+1) aj;generalize hA:gi l (g.at_+1) - gi l g.at_=A at*;refine .region (.o (.alloc hs zeroValue249 rfl fun b5 w hs=>?_));refine .o (.aD (vs:=[_,_]) hs rfl rfl sizeOf249 fun w hs=>?_);refine .nil (nT ⟨H2,[.blk b5 [I (g.at_:Int),I (g.n:Int)],.blk b3 [.slice (some ⟨jG,0,none⟩) l.length l.length],.blk jG (Is (E3 l j)),.blk b4 [.func (.func 134) #[Pt b3] #[]],.blk b1 [.slice a l.length c]],HLe.refl _,hs,?_⟩);rintro w nJ - hs;refine .block (.seq (.draw mix rfl hs fun w hs=>?_));refine .y 0 rfl hs an ?_;refine .z 1 rfl (zfa iH) ?_;refine .y 2 rfl hs ai ?_;refine .z 3 rfl cz ?_;refine .ixX (enc:=fun x=>[I x]) (i:=4) hs rfl au .none Cw rfl rfl af ak (bG (l:=l) (i:=(g.at_+1)) aj) dD ?_;intro LW o23 qx;replace qx:=bE.one qx;refine .r (i:=5) hs rfl au .none (aP rfl ai qx) ?_;refine .y 6 rfl hs an ?_;refine .z 7 rfl (zfa iH) ?_;refine .y 8 rfl hs ai ?_;refine .ixX (enc:=fun x=>[I x]) (i:=9) hs rfl au .none Cw rfl rfl af ak (bG (l:=l) (i:=g.at_) aj) dD ?_;intro Sy o28 lP;replace lP:=bE.one lP;refine .r (i:=10) hs rfl au .none (aP rfl ai lP) ?_;refine .zw 11 rfl iw ?_;rw [hA];refine .zw 12 rfl zg ?_;refine .D hs ?_;refine .seq (.ae (.z (zfa lF) (.y hs (zld ai) (.z gO ?_))))
  skip
  refine .nil (.bX rfl (fun wg=>?_) (fun wg=>?_))
  ·refine .ae (.y hs (zld isAgg244) (.z (zfa iH) (.y hs (zld ai) (.z zm (.z nf (.z zm (.z nf (.o (.buildSlice (cells:=[_,_]) hs fC rfl rfl fun UH w hs=>?_)))))))));have h2:g.two=false:=by
    cases e:g.two with
    |false=>rfl
    |true=>simp [Grp.n,e] at wg
   obtain ⟨H3,bP,r41,hs⟩:=bM.ck (xs:=[18*A,18*A]) (v:= .slice (some ⟨UH,0,none⟩) 2 2) (.full (len:=2) rfl) br hs dr;have Se:=Oe h2 hA;rw [Se] at hK i5;replace hs:St H3 w (.blk b3 [.slice (some ⟨jG,0,none⟩) l.length l.length]:: .blk jG (Is (E3 l j)):: .blk b5 [I (g.at_:Int),I (g.n:Int)]:: .blk b4 [.func (.func 134) #[Pt b3] #[]]:: .blk b1 [.slice a l.length c]::nJ):=hs.sb;refine .o (.ng (first:=[Pt b3]) (cap:=[]) rfl rfl call134 (sa (from_:=g.at_) (xs:=[18*A,18*A]) hs aag r41 (by simp;omega) aj aj aj) ?_);rintro _ w hs;rw [←hK] at hs;exact .nil (.exit (xT (xB ⟨H3,_,bP,(hs.sb:St H3 w (.blk b3 _:: .blk jG _:: .blk b4 _:: .blk b1 _::nJ)),rfl⟩)))
  ·refine .skip (nT (.seq (.draw mix rfl hs fun w hs=>?_)));have h2:g.two=true:=by
    cases e:g.two with
    |true=>rfl
    |false=>simp [Grp.n,e] at wg
   obtain ⟨j1,j2,j3,j4⟩:=i4 h2;have hq2:=hp.bd (i:=g.at_+2) aj;generalize hB:gi l (g.at_+2) - gi l (g.at_+1)=B at*;have Vj:=JD (a:=A) (b:=B) aj aj;have hk:=Qg j4;have Iw:=Im (a:=A) (b:=B) ⟨aj,aj⟩ ⟨aj,aj⟩;obtain ⟨n1,n2,n3,n4⟩:=Oc hk Iw.1 Iw.2;obtain ⟨n5,n6,n7,n8,n9⟩:=n4 _ n3.1 n3.2;generalize hT:tms A B=T at*;generalize hM:min A B=M at*;have Se:=Od h2 hA hB hT hM;refine .y 0 rfl hs an ?_;refine .z 1 rfl (zfa iH) ?_;refine .y 2 rfl hs ai ?_;refine .z 3 rfl cz ?_;refine .ixX (enc:=fun x=>[I x]) (i:=4) hs rfl au .none Cw rfl rfl af ak (bG (l:=l) (i:=(g.at_+2)) aj) dD ?_;intro VI o47 pQ;replace pQ:=bE.one pQ;refine .r (i:=5) hs rfl au .none (aP rfl ai pQ) ?_;refine .y 6 rfl hs an ?_;refine .z 7 rfl (zfa iH) ?_;refine .y 8 rfl hs ai ?_;refine .z 9 rfl cz ?_;refine .ixX (enc:=fun x=>[I x]) (i:=10) hs rfl au .none Cw rfl rfl af ak (bG (l:=l) (i:=(g.at_+1)) aj) dD ?_;intro aau o53 F2;replace F2:=bE.one F2;refine .r (i:=11) hs rfl au .none (aP rfl ai F2) ?_;refine .zw 12 rfl iw ?_;rw [hB];refine .zw 13 rfl zg ?_;refine .D hs ?_;refine .ae (.z zm (.z zm (.o (.call call136 rfl (jO hs aj aj) ?_))));rintro _ w ⟨rfl,hs⟩;refine .z zm (.z zm (.o (.call call136 rfl (jO hs aj aj) ?_)));rintro _ w ⟨rfl,hs⟩;refine .z HM ?_;rw [←Vj];refine .zn zg (.ae (.z zm (.q hs (DK rfl rfl aj aj) (.z zm (.z cz (.z nf (.z zm (.z zm (.z Ju ?_)))))))));rw [hM];refine .z nf (.zn zg (.ae (.z zm (.z zm (.z nf (.z zm (.z iw (.z nf (.z zm (.z zm (.z cz (.z nf (.z zm (.z cz (.z nf (.z zm (.z zm (.z nf (.z iw (.z nf (.o (.buildSlice (cells:=[_,_,_]) hs nF rfl rfl fun UG w hs=>?_))))))))))))))))))))));refine .zn zg (.cut (fun fs w=>∃H3,np fs ⟨103,[],[(10,.slice (some ⟨UG,0,none⟩) 3 3),(5,Pt b5),(4,Pt b4),(3,Pt b3),(1,Pt b1)]⟩∧HLe H2 H3∧RI H3 (.slice (some ⟨UG,0,none⟩) 3 3) (BK l g)∧St H3 w (.blk b3 [.slice (some ⟨jG,0,none⟩) l.length l.length]:: .blk jG (Is (E3 l j)):: .blk b5 [I (g.at_:Int),I (g.n:Int)]:: .blk b4 [.func (.func 134) #[Pt b3] #[]]:: .blk b1 [.slice a l.length c]::nJ)) ?_ ?_)
   ·refine .ae (.z zm (.z zm (.zn q5 (.bX rfl (fun N0=>?_) (fun N0=>?_)))))
    ·refine .region (.z zm (.o (.call call137 rfl (nt (en:= .blk UG (Is [(6:Int).tdiv T*(1+T)*M*T*(2 - T),(6:Int).tdiv T*(1+T)*M*(1+T)*(1+T),(6:Int).tdiv T*(1+T)*M*(2*T - 1)])) (hs.sb:St H2 w (.blk UG _:: .blk b3 _:: .blk jG _:: .blk b5 _:: .blk b4 _:: .blk b1 _::nJ)) (.full rfl) br) ?_)));rintro _ w ⟨en95,Ym,hs⟩;refine .nil (nT ?_);obtain ⟨H3,bP,r90,hs⟩:=bM.ck Ym br hs .here;rw [if_pos N0] at Se;rw [Se];exact ⟨H3,bk,bP,r90,hs⟩
    ·refine .skip (nT ?_);obtain ⟨H3,bP,r90,hs⟩:=bM.ck (xs:=[(6:Int).tdiv T*(1+T)*M*T*(2 - T),(6:Int).tdiv T*(1+T)*M*(1+T)*(1+T),(6:Int).tdiv T*(1+T)*M*(2*T - 1)]) (v:= .slice (some ⟨UG,0,none⟩) 3 3) (.full (len:=3) rfl) br hs dr;rw [if_neg aj] at Se;rw [Se];exact ⟨H3,bk,bP,r90,hs.sb⟩
   ·rintro fs w ⟨H3,i7,bP,r90,hs⟩;refine WE.sub ?_ i7;refine .region (.y hs (zld isAgg244) (.z (zfa iH) (.y hs (zld ai) (.z zm (.o (.ng (first:=[Pt b3]) (cap:=[]) rfl rfl call134 (sa (from_:=g.at_) (xs:=BK l g) hs aag r90 (by rw [G7,show g.n=2 by unfold Grp.n;rw [h2];rfl];omega) aj aj aj) ?_))))));rintro _ w hs;rw [←hK] at hs;exact .nil (nB ⟨H3,_,bP,(hs.sb:St H3 w (.blk b3 _:: .blk jG _:: .blk b4 _:: .blk b1 _::nJ)),rfl⟩)
 ·rintro D H2 wH w aO rfl hs;rw [show (uu l).length=(CA l).length by simp [uu],Mt] at hs;replace hs:St H2 w (.obj D (.deferred (some [])):: .blk b3 [.slice (some ⟨jG,0,none⟩) l.length l.length]:: .blk jG (Is (wts l)):: .blk b4 [.func (.func 134) #[Pt b3] #[]]:: .blk b1 [.slice a l.length c]::σ):=hs;refine nB (nT (.ae (.z (zfa sm) (.y hs (zld an) (.zn zg (.ret ?_))))));obtain ⟨H3,bP,hR,hs⟩:=bM.ck (xs:=wts l) (v:= .slice (some ⟨jG,0,none⟩) l.length l.length) (.full (by simp [Is,kr])) (by rw [kr];omega) hs dr;exact Fin.iz [D] [] hs fun w hs=>⟨_,results1 results71 rfl,H3,aq.trans (aO.trans bP),hR,hs.out⟩
def HZ(X Y:List Int)(i:Nat):List Int:=(List.range Y.length).map fun k=>gi X i*gi Y k
def uv(X Y:List Int)(i:Nat):List (List Int):=(List.range i).map (HZ X Y)
theorem sK(X Y:List Int)(i:Nat):(HZ X Y i).length=Y.length:=by simp [HZ]
theorem qz(X Y:List Int)(i:Nat):(uv X Y i).length=i:=by simp [uv]
theorem IS(X Y:List Int)(i:Nat):uv X Y (i+1)=uv X Y i++[HZ X Y i]:=by simp [uv,List.range_succ]
theorem JV(hk:k<Y.length):(HZ X Y i).take (k+1)=(HZ X Y i).take k++[gi X i*gi Y k]:=by
 rw [dv (by simp [HZ,hk]:(HZ X Y i)[k]? =some (gi X i*gi Y k))]
theorem G9{n:Nat}(h:i<n):gr (uv X Y n) i=HZ X Y i:=by simp [gr,List.getD,uv,h]
theorem Of{n:Nat}(h:i<n)(hk:k<Y.length):gt (uv X Y n) i k=gi X i*gi Y k:=by
 unfold gt;rw [G9 h];simp [gi,List.getD,HZ,hk]
inductive GrS(X Y:List Int)(b:Nat)(i k:Nat)(H:bB)(σ:List Ent):Prop
 |go (us:List Value) (v:Value) (en:Ent) (h:i<X.length) (h1:RLs H us (uv X Y i)) (h2:bM 1 v (Is ((HZ X Y i).take k)) en) (h3:σ=[.blk b (us++v::List.replicate (X.length - i - 1) (.slice none 0 0)),en])
 |fin (us:List Value) (h:i=X.length) (h1:RLs H us (uv X Y i)) (h3:σ=[.blk b us])
theorem GrS.mono{H':bB}(h:GrS X Y b i k H σ)(hl:HLe H H'):GrS X Y b i k H' σ:=by
 cases h with
 |go us v en h h1 h2 h3=>exact .go us v en h (h1.mono hl) h2 h3
 |fin us h h1 h3=>exact .fin us h (h1.mono hl) h3
theorem kD{w:World}{v:Value}{l:List Int}(hs:St H w σ)(hr:RI H v l):
  aaA 26 [v] w fun u w'=>∃H1 vo e,HLe H H1∧u= .tuple #[vo,I e]∧(iZ 9 100000 l→e=0∧RI H1 vo (wts l))∧St H1 w' σ:=by
 obtain ⟨a,c,rfl⟩:=RI.shape hr;refine Cl.o func26 ntmps26 ag1 ?_;refine .ae (.z zg (.zn zg (.seq (.ae (.z zm (.o (.call call70 rfl (pH hs hr) ?_)))))));rintro _ w ⟨e,rfl,he,hs⟩;refine .zn zg (.ae (.z zm (.zn gE (.eN rfl (fun Db=>?_) (fun Db=>?_)))))
 ·exact .ae (.z zm (.z zg (.zn zg (.ret (rT (Fin.mi results26 rfl rfl ⟨H,_,_,HLe.refl H,rfl,fun h=>by rcases he with ⟨_,h2⟩|⟨h1,_⟩;exact (Db h2).elim;exact (h1 h).elim,hs⟩))))))
 ·refine .skip (nT (.ae (.z zm ?_)))
  have hp:iZ 9 100000 l:=by rcases he with ⟨h,_⟩|⟨_,h2⟩;exact h;exact (h2 (by simpa using Db)).elim
  refine .o (.call call71 rfl (kC hs hr hp) ?_);rintro v11 w ⟨H1,aq,hR,hs⟩;exact .z zg (.zn zg (.ret (Fin.mi results26 rfl rfl ⟨H1,_,_,aq,rfl,fun _=>⟨rfl,hR⟩,hs⟩)))
theorem u9{w:World}{a b:List Int}(hs:St H w σ)(h1:RI H v1 a)(h2:RI H v2 b):
  aaA 156 [v1,v2] w fun u w'=>∃bb:Bool,u= .bool bb∧(bb=true↔iZ 9 100000 a∧iZ 7 15000 b)∧St H w' σ:=by
 refine Cl.o func156 ntmps156 ag2 ?_;refine .ae (.zn zg (.ae (.z zm (.o (.call call133 rfl (jz (many:=9) (most:=100000) hs h1) ?_)))));rintro _ w ⟨b6,rfl,Si,hs⟩;refine .z zm (.bif (t':=7) rfl (fun Vu=>?_) (fun Vu=>?_))
 ·refine .T (.z zm (.T (.o (.call call133 rfl (jz (many:=7) (most:=15000) hs h2) ?_))));rintro _ w ⟨b9,rfl,Ug,hs⟩;exact .z zpT (.zn zg (.ret (Fin.bp results156 rfl ⟨_,rfl,by rw [Ug];exact ⟨fun h=>⟨Si.1 Vu,h⟩,fun h=>h.2⟩,hs⟩)))
 ·exact .Fs 2 2 true (.z zpF (.zn zg (.ret (Fin.bp results156 rfl ⟨_,rfl,⟨fun h=>(by cases h),fun h=>by rw [Si.2 h.1] at Vu;cases Vu⟩,hs⟩))))
theorem rm{w:World}{bx by_:Nat}{y:Int}(hs:St H w σ)(hx:Row H bx [I x])(hy:Row H by_ [I y]):
  aaA 270 [Pt bx,Pt by_] w fun u w'=>u= .tuple #[I x,I y]∧St H w' σ:=by
 have C7:=hx.at 0;have hy0:=hy.at 0;refine Cl.o func270 ntmps270 ag2 ?_;refine .ae (.z zg (.zn zg (.seq (.draw mix rfl hs fun w hs=>?_))));refine .y 0 rfl hs ai ?_;refine .y 1 rfl hs ai ?_;refine .z 2 rfl zg ?_;refine .z 3 rfl zg ?_;refine .D hs ?_;exact .ret (Fin.mi results270 rfl rfl ⟨rfl,hs⟩)
def PrE(X Y:List Int)(p:Nat)(H:bB)(z:List Value):Prop:=
 ∃bx by_,z=[.agg #[I ((p/Y.length:Nat):Int),I ((p%Y.length:Nat):Int)],.func (.func 270) #[] #[Pt bx,Pt by_]]∧Row H bx [I (gi X (p/Y.length))]∧Row H by_ [I (gi Y (p%Y.length))]
theorem tH{b2:Nat}(BH:Row H b1 [v1])(xY:Row H b2 [v2])(hX:RI H v1 X)(hY:RI H v2 Y)(IN:X.length≤1000)(Vw:Y.length≤1000):
  OH Tryz.prog 269 [Pt b1,Pt b2] H (X.length*Y.length) (PrE X Y):=by
 intro ly II Ix Ec _ hy H0 Dr σf w hle Ak hs;obtain ⟨a1,c1,rfl⟩:=RI.shape hX;obtain ⟨a2,c2,rfl⟩:=RI.shape hY;have YE:cellAt H0 b1 0=some (.slice a1 X.length c1):=cellAt.mono (BH.at 0) hle;have aar:cellAt H0 b2 0=some (.slice a2 Y.length c2):=cellAt.mono (xY.at 0) hle;refine Cl.o func269 ntmps269 ag3 ?_;refine .ae (.y hs (zld an) (.z (cJ af) (.zn zm (.for (N:=X.length) (J:=fun i fr w=>fr=[(8,.slice a1 X.length c1),(0,.func (.yield ly) #[] #[]),(1,Pt b1),(2,Pt b2)]∧∃H1 σb,HLe H H1∧HLe H0 H1∧II (i*Y.length) H1 σb∧St H1 w (σb++σf)) aj ?_ ?_ ?_))))
 ·exact .mk ⟨rfl,H0,Dr,hle,HLe.refl _,by rw [Nat.zero_mul];exact Ak,hs⟩
 ·rintro i fr w hi ⟨rfl,H1,σb,aq,eZ,hI,hs⟩;refine .block (.ae (.z zm (.ixY hs (hX.mono aq) rfl rfl af ak (bG (l:=X) (i:=i) aj) dD ?_)));intro jG o13 iX;refine .q hs (aP rfl ai iX) (.o (.alloc hs du rfl fun b5 w hs=>?_));refine .z zg (.o (.store hs rfl rfl ak fun w hs=>?_));refine .nil (.ae ?_);obtain ⟨H2,aO,r5,hs⟩:=hs.bQ (b:=b5) .here;have h22:=cellAt.mono aar (eZ.trans aO);refine .y hs (zld an) (.z (cJ af) (.zn zm (.for (N:=Y.length) (J:=fun k fr w=>fr=[(15,.slice a2 Y.length c2),(4,I (i:Int)),(10,I (i:Int)),(9,I (X.length:Int)),(5,Pt b5),(8,.slice a1 X.length c1),(0,.func (.yield ly) #[] #[]),(1,Pt b1),(2,Pt b2)]∧∃H3 σb,HLe H2 H3∧II (i*Y.length+k) H3 σb∧St H3 w (σb++σf)) aj ?_ ?_ ?_)))
  ·exact .mk ⟨rfl,H2,σb,HLe.refl _,Ec _ _ _ _ aO hI,hs⟩
  ·rintro k fr w hk ⟨rfl,H3,Mp,bP,Lp,hs⟩;have eO:=eZ.trans (aO.trans bP);have Pj:=aq.trans (aO.trans bP);refine .block (.ae (.z zm (.ixY hs (hY.mono Pj) rfl rfl af ak (bG (l:=Y) (i:=k) aj) dD ?_)));intro PV o20 AW;refine .q hs (aP rfl ai AW) (.o (.alloc hs du rfl fun b7 w hs=>?_));refine .z zg (.o (.store hs rfl rfl ak fun w hs=>?_));refine .nil (.ae (.z zm (.z zm (.z zm (.q hs (Ca (vs:=[(0,I (i:Int)),(1,I (k:Int))]) (cells:=[I (i:Int),I (k:Int)]) zeroValue28 rfl nU ak rfl) (.q hs (cV (f:=[]) (c:=[_,_]) rfl rfl) ?_))))));obtain ⟨H4,eL,r7,hs⟩:=hs.bQ (b:=b7) .here;obtain ⟨d1,d2⟩:=SG (nw:=Y.length) (i:=i) (k:=k) hk;have fk:i*Y.length+k<X.length*Y.length:=by
    have:=Nat.mul_le_mul_right Y.length (show i+1≤X.length by omega);rw [Nat.add_mul,Nat.one_mul] at this;omega
   have xx:=hy (i*Y.length+k) fk [.agg #[I (i:Int),I (k:Int)],.func (.func 270) #[] #[Pt b5,Pt b7]] H4 Mp σf w (Pj.trans eL) ⟨b5,b7,by rw [d1,d2],by rw [d1];exact r5.mono (bP.trans eL),by rw [d2];exact r7⟩ (Ec _ _ _ _ eL Lp) hs;refine .o (.yield rfl rfl xx ?_);rintro v27 w ⟨H5,σ5,g1,hs,g3⟩;obtain ⟨bb,rfl,gT,gF⟩:=oH g3;refine .zn im (.cond rfl (fun lP=>?_) (fun lP=>?_))
   ·exact .ret (rB (rT (rB (rB (rT (rB (Fin.Qu results269 ⟨H5,σ5,eO.trans (eL.trans g1),hs,.inr (gF (by simpa using lP))⟩)))))))
   ·exact .skip (nB (nT (.mk ⟨rfl,H5,σ5,bP.trans (eL.trans g1),gT (by simpa using lP),hs⟩)))
  ·rintro fr w ⟨rfl,H3,Mp,bP,Lp,hs⟩;exact nB (nT (.mk ⟨rfl,H3,Mp,aq.trans (aO.trans bP),eZ.trans (aO.trans bP),by rw [Nat.add_mul,Nat.one_mul];exact Lp,hs⟩))
 ·rintro fr w ⟨rfl,H1,σb,aq,eZ,hI,hs⟩;exact Fin.yg results269 ⟨H1,σb,eZ,hs,.inl hI⟩
theorem xg{w:World}(hs:St H w σ)(hX:RI H v1 X)(hY:RI H v2 Y)(IN:X.length≤1000)(Vw:Y.length≤1000):
  aaA 231 [v1,v2] w fun u w'=>∃H1 b1 b2,HLe H H1∧u= .func (.func 269) #[] #[Pt b1,Pt b2]∧OH Tryz.prog 269 [Pt b1,Pt b2] H1 (X.length*Y.length) (PrE X Y)∧St H1 w' σ:=by
 obtain ⟨a1,c1,rfl⟩:=RI.shape hX;obtain ⟨a2,c2,rfl⟩:=RI.shape hY;refine Cl.o func231 ntmps231 ag2 ?_;refine .ae (.bx hs fun b2 w hs=>?_);refine .bx hs fun b3 w hs=>?_
 refine .zn zg (.ae (.q hs (cV (f:=[]) (c:=[_,_]) rfl rfl) (.zn zg (.ret (Fin.bp results231 rfl ?_)))));obtain ⟨H1,g1,r1,hs⟩:=hs.bQ (b:=b2) dr;obtain ⟨H2,g2,r2,hs⟩:=hs.bQ (b:=b3) dr;exact ⟨H2,b2,b3,g1.trans g2,rfl,tH (r1.mono g2) r2 (hX.mono (g1.trans g2)) (hY.mono (g1.trans g2)) IN Vw,hs⟩
set_option maxHeartbeats 1000000 in
theorem yt{w:World}{l1 l2:List Int}(hs:St H w σ)(Pc:RI H v1 l1)(Cw:RI H v2 l2)(TC:iZ 9 100000 l1)(Pg:iZ 7 15000 l2):
  aaA 157 [v1,v2] w fun u w'=>∃H1,HLe H H1∧RT H1 u (uv (wts l1) (wts l2) l1.length)∧St H1 w' σ:=by
 obtain ⟨a1,c1,rfl⟩:=RI.shape Pc;obtain ⟨a2,c2,rfl⟩:=RI.shape Cw;have zr:=TC.many;have W8:=Pg.many;have htw1:=TC.two;have htw2:=Pg.two;have W1:iZ 9 100000 l2:=⟨Pg.two,aj,Pg.low,by have:=Pg.high;omega,Pg.rise⟩;have IN:=kr l1;have Vw:=kr l2;have hXb:=OO TC;have hYb:=OO Pg;refine Cl.o func157 ntmps157 ag2 ?_;refine .ae (.zn zg (.ae (.z zm (.o (.call call71 rfl (kC hs Pc TC) ?_)))));rintro v13 w ⟨H1,aq,hX,hs⟩;refine .z zm (.o (.call call71 rfl (kC hs (Cw.mono aq) W1) ?_));rintro v15 w ⟨H2,aO,hY,hs⟩;replace hX:=hX.mono aO;generalize wts l1=X at*;generalize wts l2=Y at*;obtain ⟨aX,cX,rfl⟩:=RI.shape hX;obtain ⟨aY,cY,rfl⟩:=RI.shape hY;refine .z zg (.zn zg (.ae (.z zm (.z (cJ af) (.o (.Td l1.length hs rfl rfl az typeInfo22 rfl aJ gY aj fun uT w hs=>?_))))));refine .o (.alloc hs zeroValue40 rfl fun b7 w hs=>?_);refine .o (.store hs rfl rfl sizeOf40 fun w hs=>?_);refine .nil (.seq (.ae (.z zm (.z zm (.o (.call call231 rfl (xg hs hX hY aj aj) ?_))))));rintro _ w ⟨H3,bp1,bp2,bP,rfl,oG,hs⟩;have eO:=aq.trans (aO.trans bP);have h0:GrS X Y uT 0 0 H3 [.blk uT (List.replicate l1.length (.slice none 0 0)),.nul]:=by
  refine .go [] (.slice none 0 0) .nul aj (RLs.nil _) (.nil 1 none) ?_;rw [IN];obtain ⟨m,hm⟩:∃m,l1.length=m+1:=⟨l1.length - 1,aj⟩;rw [hm];rfl
 refine .nil (.block ?_);refine .OW (gf:=269) (cap:=[Pt bp1,Pt bp2]) (N:=X.length*Y.length) (E:=PrE X Y) (σb:= .blk b7 [.slice (some ⟨uT,0,none⟩) l1.length l1.length]::[.blk uT (List.replicate l1.length (.slice none 0 0)),.nul]) (σf:=σ) (hs.nul.sb) trivial rfl oG call269 (fun k H' z ⟨_,_,hz,_⟩=>by rw [hz];rfl) rfl
  (I:=fun p H' σb=>∃σ1,σb= .blk b7 [.slice (some ⟨uT,0,none⟩) l1.length l1.length]::σ1∧GrS X Y uT (p/Y.length) (p%Y.length) H' σ1) (Ix:=fun _ _ _=>False)
  (fun j _ _ σ g1 ⟨σ1,g2,g3⟩=>⟨σ1,g2,g3.mono g1⟩) (fun _ _ _ _ _ h=>h) ⟨_,rfl,by rw [Nat.zero_div,Nat.zero_mod];exact h0⟩ ?_ ?_ (fun D c H' σb w _ h _=>h.elim)
 ·rintro ly p hp z H4 wH wG w eL ⟨bx,by_,rfl,rx,ry⟩ ⟨σ1,rfl,hG⟩ hs ⟨rr,GV⟩;have KS:=GN (p:=p) (m:=Y.length) aj;have KY:=Nat.mod_lt p (show 0<Y.length by omega);have gM:p/Y.length<X.length:=Nat.div_lt_of_lt_mul (by rw [Nat.mul_comm];exact hp);generalize hi:p/Y.length=i at*;generalize hk:p%Y.length=k at*
  cases hG with
  |fin us h=>omega
  |go us v en h h1 h2 h3=>
  subst h3;obtain ⟨av,lv,cv,rfl,ZB⟩:=h2.shape;have NJ:us.length=i:=by rw [h1.1,qz]
  have BH:=hXb i;have xY:=hYb k;have Zr:=PX (gi X i) (gi Y k);have hprb: -3456000000000≤gi X i*gi Y k∧gi X i*gi Y k≤3456000000000:=ox (A:=4800000) (B:=720000) (by unfold ab at BH;omega) (by unfold ab at xY;omega);refine .ae (.o (.alloc hs zeroValue28 rfl fun b8 w hs=>?_));refine .o (.aD (vs:=[_,_]) hs rfl rfl sizeOf28 fun w hs=>?_);refine .nil (.region (.zn zg (nT ⟨H4,[.blk b8 [I (i:Int),I (k:Int)],.blk b7 [.slice (some ⟨uT,0,none⟩) l1.length l1.length],.blk uT (us++Value.slice av lv cv::List.replicate (X.length - i - 1) (Value.slice none 0 0)),en],HLe.refl _,hs,?_⟩)));rintro w nJ - hs;refine .block (.ae (.z zm (.o (.ng (first:=[]) (cap:=[Pt bx,Pt by_]) rfl rfl call270 (rm hs rx ry) ?_))));rintro _ w ⟨rfl,hs⟩;refine .z zm (.z zex (.z zex (.z zg (.zn zg (.draw mix rfl hs fun w hs=>?_)))));refine .zv 0 rfl hs (rE wE) (.zw 1 rfl (zia 0 nU ak) (.y 2 rfl hs ai ?_));refine .y 3 rfl hs wE ?_;refine .zw 4 rfl (zia 0 nU ak) (.zv 5 rfl hs (rE ai) (.zw 6 rfl (mN (k:=i) rfl rfl az aJ rfl aj) (.load (i:=7) hs rfl au .none rfl an ?_ (hv:=by rw [List.getElem?_append_right aj,NJ,Nat.sub_self];rfl))));refine .zw 8 rfl zm ?_;refine .z 9 rfl zm ?_;refine .z 10 rfl nf ?_;refine .E 11 hs ?_;refine .buildSlice (cells:=[_]) hs bJ rfl rfl ?_;intro UI w hs;refine .go (.E 12 hs ?_);refine .append (ys:=Is [gi X i*gi Y k]) hs bO rfl rfl h2 (.own .here rfl rfl) (jF _) (fun l' h=>by simp at h;omega) ?_;intro v41 en41 w hO hs;rw [show Is ((HZ X Y i).take k)++Is [gi X i*gi Y k]=Is ((HZ X Y i).take (k+1)) by rw [JV KY];simp [Is]] at hO;obtain ⟨a41,l41,c41,rfl,hl41⟩:=hO.shape;refine .go (.zw 13 rfl (mN (k:=i) rfl rfl az aJ rfl aj) (.E 14 hs ?_));refine .store (c':=us++ .slice a41 l41 c41::List.replicate (X.length - i - 1) (.slice none 0 0)) hs rfl rfl aJ ?_ dr (by simp;omega) (by rw [List.set_append_right _ _ aj,NJ,Nat.sub_self];rfl);intro w hs;refine .go (.D hs (nB ?_))
  rcases KS with ⟨g1,g2,g3⟩|⟨g1,g2,g3⟩
  ·exact ⟨H4,[.blk b7 [.slice (some ⟨uT,0,none⟩) l1.length l1.length],.blk uT (us++ .slice a41 l41 c41::List.replicate (X.length - i - 1) (.slice none 0 0)),en41],HLe.refl _,(hs.sb:St H4 w (.blk b7 _:: .blk uT _::en41::nJ)),_,rfl,by rw [g2,g3];exact .go us _ en41 h h1 hO rfl⟩
  ·obtain ⟨H5,eV,hR,hs⟩:=bM.ck hO (by rw [List.length_take,sK];omega) hs dr;rw [List.take_of_length_le (by rw [sK];omega)] at hR;have PM:RLs H5 (us++[.slice a41 l41 c41]) (uv X Y (i+1)):=by rw [IS];exact (h1.mono eV).snoc hR
   by_cases e:i+1<X.length
   ·refine ⟨H5,[.blk b7 [.slice (some ⟨uT,0,none⟩) l1.length l1.length],.blk uT (us++ .slice a41 l41 c41::List.replicate (X.length - i - 1) (.slice none 0 0)),.nul],eV,(hs.nul.sb:St H5 w (.blk b7 _:: .blk uT _:: .nul::nJ)),_,rfl,?_⟩;rw [g2,g3];refine .go (us++[.slice a41 l41 c41]) (.slice none 0 0) .nul e PM (.nil 1 none) ?_;obtain ⟨m,hm⟩:∃m,X.length - i - 1=m+1:=⟨X.length - i - 2,aj⟩;rw [hm,show X.length - (i+1) - 1=m by omega,List.append_assoc];rfl
   ·refine ⟨H5,[.blk b7 [.slice (some ⟨uT,0,none⟩) l1.length l1.length],.blk uT (us++ .slice a41 l41 c41::List.replicate (X.length - i - 1) (.slice none 0 0))],eV,(hs.sb:St H5 w (.blk b7 _:: .blk uT _::nJ)),_,rfl,?_⟩;rw [g2,g3];refine .fin (us++[.slice a41 l41 c41]) aj PM ?_;rw [show X.length - i - 1=0 by omega];rfl
 ·rintro D H4 wH w eL ⟨σ1,rfl,hG⟩ hs;rw [Nat.mul_div_cancel _ aj,Nat.mul_mod_left] at hG
  cases hG with
  |go us v en h=>omega
  |fin us h h1 h3=>
  subst h3;replace hs:St H4 w (.obj D (.deferred (some [])):: .blk b7 [.slice (some ⟨uT,0,none⟩) l1.length l1.length]:: .blk uT us::σ):=hs;have NJ:us.length=l1.length:=by rw [h1.1,qz,IN]
  refine nB (nT (.ae (.y hs (zld wE) (.zn zg (.ret ?_)))));obtain ⟨H5,eV,hR,hs⟩:=h1.bQ (v:= .slice (some ⟨uT,0,none⟩) l1.length l1.length) (en:= .blk uT us) (.full (by simp [NJ])) aj hs dr;rw [IN] at hR;exact Fin.iz [D] [] hs fun w hs=>⟨_,results1 results157 rfl,H5,eO.trans (eL.trans eV),hR,hs.out⟩
theorem p5{w:World}{l1 l2:List Int}(hs:St H w σ)(Pc:RI H v1 l1)(Cw:RI H v2 l2):
  aaA 84 [v1,v2] w fun u w'=>∃H1 vo e,HLe H H1∧u= .tuple #[vo,I e]∧(iZ 9 100000 l1∧iZ 7 15000 l2→e=0∧RT H1 vo (uv (wts l1) (wts l2) l1.length))∧(e=0→iZ 9 100000 l1∧iZ 7 15000 l2)∧St H1 w' σ:=by
 refine Cl.o func84 ntmps84 ag2 ?_;refine .ae (.z zg (.zn zg (.seq (.ae (.z zm (.z zm (.o (.call call156 rfl (u9 hs Pc Cw) ?_))))))));rintro _ w ⟨b8,rfl,PB,hs⟩;refine .zn im (.cond rfl (fun nP=>?_) (fun nP=>?_))
 ·exact .ae (.z zg (.zn zg (.ret (rT (Fin.mi results84 rfl rfl ⟨H,_,_,HLe.refl H,rfl,fun h=>(by rw [PB.2 h] at nP;cases nP),fun h=>aj,hs⟩)))))
 ·refine .skip (nT (.ae (.z zm (.z zm ?_))));have hp:=PB.1 (by simpa using nP);refine .o (.call call157 rfl (yt hs Pc Cw hp.1 hp.2) ?_);rintro v12 w ⟨H1,aq,hR,hs⟩;exact .z zg (.zn zg (.ret (Fin.mi results84 rfl rfl ⟨H1,_,_,aq,rfl,fun _=>⟨rfl,hR⟩,fun _=>hp,hs⟩)))
theorem bq{w:World}(hs:St H w σ):aaA 85 [I a0,I a1,I a2] w fun v w'=>v= .bool (decide (a1≤a0∧a0≤a2))∧St H w' σ:=by
 refine Cl.o func85 ntmps85 ag3 ?_;refine .ae (.zn zg (.ae (.z zm (.z zm (.z rl (.z zm (.mW (t':=10) rfl (fun qy=>?_) (fun qy=>?_))))))))
 ·exact .T (.z zm (.T (.z zm (.T (.z rl (.z zpT (.zn zg (.ret (Fin.bp results85 rfl ⟨by simp [*],hs.out⟩)))))))))
 ·exact .Fs 3 3 true (.z zpF (.zn zg (.ret (Fin.bp results85 rfl ⟨by simp [*],hs.out⟩))))
theorem je{w:World}(hs:St H w σ):aaA 86 [I a0] w fun v w'=>v= .bool (decide (1≤a0∧a0≤99999))∧St H w' σ:=by
 refine Cl.o func86 ntmps86 ag1 ?_;refine .ae (.zn zg (.ae (.z zm (.o (.call kU rfl (bq hs) ?_)))));rintro _ w ⟨rfl,hs⟩;exact .zn zg (.ret (Fin.bp results86 rfl ⟨rfl,hs⟩))
theorem fo{w:World}{s:Spc}{vst vwa:Value}(hs:St H w σ)(h1:RI H vst s.st)(h2:RI H vwa s.wa):
  aaA 41 [.agg #[I s.id,I s.src,vst,vwa,I s.al,I s.up]] w fun v w'=>∃H1 e,HLe H H1∧v=I e∧((fm s∧e=0)∨(¬fm s∧e=30))∧St H1 w' σ:=by
 obtain ⟨ast,cst,rfl⟩:=RI.shape h1;obtain ⟨awa,cwa,rfl⟩:=RI.shape h2;refine Cl.o func41 ntmps41 ag1 ?_;refine .ae (.bx hs fun b1 w hs=>?_);refine .zn zg (.seq (.ae (.z (zfa bw) (.y hs (zld an) (.z (zfa bg) (.y hs (zld an) (.o (.call call84 rfl (p5 hs h1 h2) ?_))))))));rintro _ w ⟨H1,vo,e,aq,rfl,hG,hG',hs⟩;refine .z zm (.z zex (.z zex (.z zg (.zn zg (.ae (.z zm (.z gE (.z zm (.Js (t':=15) rfl (fun Em=>?_) (fun Em=>?_))))))))))
 ·exact .Fs 4 2 false (.z zpT (.z zm (.Fs 4 8 false (.z zpT (.z zm (.Fs 5 14 false (.z zpT (.z zm (.Fs 5 21 false (.zn zpT (.cT (.ae (.zn zg (.ret (rT (Fin.bp UZ rfl ⟨H1,_,aq,rfl,.inr ⟨fun h=>by have:=(hG ⟨h.st,h.wa⟩).1;simp_all,rfl⟩,hs.out⟩))))))))))))))))
 ·refine .T (.z (zfa dT) (.T (.y hs (zld ai) (.T (.o (.call kU rfl (bq hs) ?_))))));rintro _ w ⟨rfl,hs⟩;refine .T (.z im (.z zpF (.z zm (.bif (t':=21) rfl (fun wh=>?_) (fun wh=>?_)))))
  ·exact .Fs 4 8 false (.z zpT (.z zm (.Fs 5 14 false (.z zpT (.z zm (.Fs 5 21 false (.zn zpT (.cT (.ae (.zn zg (.ret (rT (Fin.bp UZ rfl ⟨H1,_,aq,rfl,.inr ⟨fun h=>by have:=h.id;simp_all,rfl⟩,hs.out⟩)))))))))))))
  ·refine .T (.z (zfa db) (.T (.y hs (zld ai) (.T (.o (.call call86 rfl (je hs) ?_))))));rintro _ w ⟨rfl,hs⟩;refine .T (.z im (.z zpF (.z zm (.bif (t':=27) rfl (fun uq=>?_) (fun uq=>?_)))))
   ·exact .Fs 5 14 false (.z zpT (.z zm (.Fs 5 21 false (.zn zpT (.cT (.ae (.zn zg (.ret (rT (Fin.bp UZ rfl ⟨H1,_,aq,rfl,.inr ⟨fun h=>by have:=h.src;simp_all,rfl⟩,hs.out⟩))))))))))
   ·refine .T (.z (zfa eQ) (.T (.z (zfa oU) (.T (.y hs (zld ai) (.T (.o (.call kU rfl (bq hs) ?_))))))));rintro _ w ⟨rfl,hs⟩;refine .T (.z im (.z zpF (.z zm (.bif (t':=34) rfl (fun X0=>?_) (fun X0=>?_)))))
    ·exact .Fs 5 21 false (.zn zpT (.cT (.ae (.zn zg (.ret (rT (Fin.bp UZ rfl ⟨H1,_,aq,rfl,.inr ⟨fun h=>by have:=h.al;simp_all,rfl⟩,hs.out⟩)))))))
    ·refine .T (.z (zfa eQ) (.T (.z (zfa oT) (.T (.y hs (zld ai) (.T (.o (.call kU rfl (bq hs) ?_))))))));rintro _ w ⟨rfl,hs⟩;refine .T (.z im (.zn zpF (.cond rfl (fun vZ=>?_) (fun vZ=>?_))))
     ·exact .ae (.zn zg (.ret (rT (Fin.bp UZ rfl ⟨H1,_,aq,rfl,.inr ⟨fun h=>by have:=h.up;simp_all,rfl⟩,hs.out⟩))))
     ·refine .skip (nT (.ae (.zn zg (.ret (Fin.bp UZ rfl ?_)))));have hg:=hG' (by simp_all);exact ⟨H1,_,aq,rfl,.inl ⟨⟨hg.1,hg.2,by simp_all,by simp_all,by simp_all,by simp_all⟩,rfl⟩,hs.out⟩
theorem pN{w:World}{s:Spc}{r:Rdg}{vst vwa:Value}(hs:St H w σ)(h1:RI H vst s.st)(h2:RI H vwa s.wa):
  aaA 103 [.agg #[I s.id,I s.src,vst,vwa,I s.al,I s.up],.agg #[I r.src,I r.st,I r.wa,I r.val,I r.tol,I r.tape,I r.day]] w fun v w'=>∃b:Bool,v= .bool b∧(b=true↔mE s r)∧St H w' σ:=by
 obtain ⟨ast,cst,rfl⟩:=RI.shape h1;obtain ⟨awa,cwa,rfl⟩:=RI.shape h2;have l1:=(RI.len h1).2.2;have l2:=(RI.len h2).2.2;refine Cl.o func103 ntmps103 ag2 ?_;refine .ae (.bx hs fun b2 w hs=>?_);refine .bx hs fun b3 w hs=>?_
 refine .zn zg (.ae (.z (zfa fi) (.y hs (zld ai) (.o (.call call86 rfl (je hs) ?_)))));rintro _ w ⟨rfl,hs⟩;refine .z zm (.bif (t':=8) rfl (fun PB=>?_) (fun PB=>?_))
 ·refine .T ?_;refine .z (zfa gg) (.T (.y hs (zld ai) (.T (.z (zfa bw) (.T (.y hs (zld an) (.T (.z (cJ af) (.T (.z iw (.T (.o (.call kU rfl (bq hs) ?_)))))))))))));rintro _ w ⟨rfl,hs⟩;refine .z zpT (.z zm (.bif (t':=17) rfl (fun Ga=>?_) (fun Ga=>?_)))
  ·refine .T ?_;refine .z (zfa fZ) (.T (.y hs (zld ai) (.T (.z (zfa bg) (.T (.y hs (zld an) (.T (.z (cJ af) (.T (.z iw (.T (.o (.call kU rfl (bq hs) ?_)))))))))))));rintro _ w ⟨rfl,hs⟩;refine .z zpT (.z zm (.bif (t':=26) rfl (fun F9=>?_) (fun F9=>?_)))
   ·refine .T (.z (zfa cR) (.T (.y hs (zld ai) (.T (.o (.call kU rfl (bq hs) ?_))))));rintro _ w ⟨rfl,hs⟩;refine .z zpT (.z zm (.bif (t':=31) rfl (fun F7=>?_) (fun F7=>?_)))
    ·refine .T (.z (zfa eE) (.T (.y hs (zld ai) (.T (.z (zfa cR) (.T (.y hs (zld ai) (.T ?_))))))));have ht:0≤r.tol∧r.tol≤1000:=by simp_all
     refine .z iw (.T (.o (.call kU rfl (bq hs) ?_)));rintro _ w ⟨rfl,hs⟩;refine .z zpT (.z zm (.bif (t':=39) rfl (fun Rl=>?_) (fun Rl=>?_)))
     ·refine .T (.z (zfa eD) (.T (.y hs (zld ai) (.T (.o (.call kU rfl (bq hs) ?_))))));rintro _ w ⟨rfl,hs⟩;refine .z zpT (.z zm (.bif (t':=44) rfl (fun IM=>?_) (fun IM=>?_)))
      ·refine .T (.z (zfa dW) (.T (.y hs (zld ai) (.T (.o (.call kU rfl (bq hs) ?_))))));rintro _ w ⟨rfl,hs⟩;refine .z zpT (.zn zg (.ret (Fin.bp Dq rfl ?_)));first
       |exact ⟨false,rfl,⟨fun h=>(by cases h),fun h=>(by obtain ⟨g1,g2,g3,g4,g5,g6,g7⟩:=h;simp_all;done)⟩,hs.out⟩
       |exact ⟨_,rfl,⟨fun h=>⟨by simp_all,by simp_all,by simp_all,by simp_all,by simp_all,by simp_all,by simpa using h⟩,fun h=>by simpa using h.day⟩,hs.out⟩
      ·refine .Fs 3 39 true (.z zpF (.zn zg (.ret (Fin.bp Dq rfl ?_))));first
       |exact ⟨false,rfl,⟨fun h=>(by cases h),fun h=>(by obtain ⟨g1,g2,g3,g4,g5,g6,g7⟩:=h;simp_all;done)⟩,hs.out⟩
       |exact ⟨_,rfl,⟨fun h=>⟨by simp_all,by simp_all,by simp_all,by simp_all,by simp_all,by simp_all,by simpa using h⟩,fun h=>by simpa using h.day⟩,hs.out⟩
     ·refine .Fs 3 34 true (.z zpF (.z zm (.Fs 3 39 true (.z zpF (.zn zg (.ret (Fin.bp Dq rfl ?_)))))));first
      |exact ⟨false,rfl,⟨fun h=>(by cases h),fun h=>(by obtain ⟨g1,g2,g3,g4,g5,g6,g7⟩:=h;simp_all;done)⟩,hs.out⟩
      |exact ⟨_,rfl,⟨fun h=>⟨by simp_all,by simp_all,by simp_all,by simp_all,by simp_all,by simp_all,by simpa using h⟩,fun h=>by simpa using h.day⟩,hs.out⟩
    ·refine .Fs 6 26 true (.z zpF (.z zm (.Fs 3 34 true (.z zpF (.z zm (.Fs 3 39 true (.z zpF (.zn zg (.ret (Fin.bp Dq rfl ?_))))))))));first
     |exact ⟨false,rfl,⟨fun h=>(by cases h),fun h=>(by obtain ⟨g1,g2,g3,g4,g5,g6,g7⟩:=h;simp_all;done)⟩,hs.out⟩
     |exact ⟨_,rfl,⟨fun h=>⟨by simp_all,by simp_all,by simp_all,by simp_all,by simp_all,by simp_all,by simpa using h⟩,fun h=>by simpa using h.day⟩,hs.out⟩
   ·refine .Fs 3 21 true (.z zpF (.z zm (.Fs 6 26 true (.z zpF (.z zm (.Fs 3 34 true (.z zpF (.z zm (.Fs 3 39 true (.z zpF (.zn zg (.ret (Fin.bp Dq rfl ?_)))))))))))));first
    |exact ⟨false,rfl,⟨fun h=>(by cases h),fun h=>(by obtain ⟨g1,g2,g3,g4,g5,g6,g7⟩:=h;simp_all;done)⟩,hs.out⟩
    |exact ⟨_,rfl,⟨fun h=>⟨by simp_all,by simp_all,by simp_all,by simp_all,by simp_all,by simp_all,by simpa using h⟩,fun h=>by simpa using h.day⟩,hs.out⟩
  ·refine .Fs 7 12 true (.z zpF (.z zm (.Fs 3 21 true (.z zpF (.z zm (.Fs 6 26 true (.z zpF (.z zm (.Fs 3 34 true (.z zpF (.z zm (.Fs 3 39 true (.z zpF (.zn zg (.ret (Fin.bp Dq rfl ?_))))))))))))))));first
   |exact ⟨false,rfl,⟨fun h=>(by cases h),fun h=>(by obtain ⟨g1,g2,g3,g4,g5,g6,g7⟩:=h;simp_all;done)⟩,hs.out⟩
   |exact ⟨_,rfl,⟨fun h=>⟨by simp_all,by simp_all,by simp_all,by simp_all,by simp_all,by simp_all,by simpa using h⟩,fun h=>by simpa using h.day⟩,hs.out⟩
 ·refine .Fs 7 3 true (.z zpF (.z zm (.Fs 7 12 true (.z zpF (.z zm (.Fs 3 21 true (.z zpF (.z zm (.Fs 6 26 true (.z zpF (.z zm (.Fs 3 34 true (.z zpF (.z zm (.Fs 3 39 true (.z zpF (.zn zg (.ret (Fin.bp Dq rfl ?_)))))))))))))))))));first
  |exact ⟨false,rfl,⟨fun h=>(by cases h),fun h=>(by obtain ⟨g1,g2,g3,g4,g5,g6,g7⟩:=h;simp_all;done)⟩,hs.out⟩
  |exact ⟨_,rfl,⟨fun h=>⟨by simp_all,by simp_all,by simp_all,by simp_all,by simp_all,by simp_all,by simpa using h⟩,fun h=>by simpa using h.day⟩,hs.out⟩
theorem pO{w:World}{c:Cmp}(hs:St H w σ):
  aaA 104 [.agg #[I c.src,I c.tape,I c.fr,I c.to,I c.lo,I c.hi]] w fun v w'=>∃b:Bool,v= .bool b∧(b=true↔tB c)∧St H w' σ:=by
 refine Cl.o func104 ntmps104 ag1 ?_;refine .ae (.bx hs fun b1 w hs=>?_);refine .zn zg (.ae (.z (zfa gu) (.y hs (zld ai) (.o (.call call86 rfl (je hs) ?_)))));rintro _ w ⟨rfl,hs⟩;refine .z zm (.bif (t':=6) rfl (fun Si=>?_) (fun Si=>?_))
 ·refine .T (.z (zfa jT) (.T (.y hs (zld ai) (.T (.o (.call kU rfl (bq hs) ?_))))));rintro _ w ⟨rfl,hs⟩;refine .z zpT (.z zm (.bif (t':=11) rfl (fun zI=>?_) (fun zI=>?_)))
  ·refine .T (.z (zfa iC) (.T (.y hs (zld ai) (.T (.z (zfa gq) (.T (.y hs (zld ai) (.T (.o (.call kU rfl (bq hs) ?_))))))))));rintro _ w ⟨rfl,hs⟩;refine .z zpT (.z zm (.bif (t':=18) rfl (fun Lh=>?_) (fun Lh=>?_)))
   ·refine .T (.z (zfa gq) (.T (.y hs (zld ai) (.T (.o (.call kU rfl (bq hs) ?_))))));rintro _ w ⟨rfl,hs⟩;refine .z zpT (.z zm (.bif (t':=23) rfl (fun zH=>?_) (fun zH=>?_)))
    ·refine .T (.z (zfa iB) (.T (.y hs (zld ai) (.T (.z (zfa gj) (.T (.y hs (zld ai) (.T (.o (.call kU rfl (bq hs) ?_))))))))));rintro _ w ⟨rfl,hs⟩;refine .z zpT (.z zm (.bif (t':=30) rfl (fun Ro=>?_) (fun Ro=>?_)))
     ·refine .T (.z (zfa gj) (.T (.y hs (zld ai) (.T (.o (.call kU rfl (bq hs) ?_))))));rintro _ w ⟨rfl,hs⟩;refine .z zpT (.zn zg (.ret (Fin.bp OL rfl ?_)));first
      |exact ⟨false,rfl,⟨fun h=>(by cases h),fun h=>(by obtain ⟨g1,g2,g3,g4,g5,g6⟩:=h;simp_all;omega)⟩,hs.out⟩
      |exact ⟨false,rfl,⟨fun h=>(by cases h),fun h=>(by obtain ⟨g1,g2,g3,g4,g5,g6⟩:=h;simp_all;done)⟩,hs.out⟩
      |exact ⟨_,rfl,⟨fun h=>⟨by simp_all,by simp_all,by simp_all,by simp_all,by simp_all,(by simpa using h:_∧_).2⟩,fun h=>by have:=h.lo;have:=h.hi;simp;omega⟩,hs.out⟩
     ·refine .Fs 3 27 true (.z zpF (.zn zg (.ret (Fin.bp OL rfl ?_))));first
      |exact ⟨false,rfl,⟨fun h=>(by cases h),fun h=>(by obtain ⟨g1,g2,g3,g4,g5,g6⟩:=h;simp_all;omega)⟩,hs.out⟩
      |exact ⟨false,rfl,⟨fun h=>(by cases h),fun h=>(by obtain ⟨g1,g2,g3,g4,g5,g6⟩:=h;simp_all;done)⟩,hs.out⟩
      |exact ⟨_,rfl,⟨fun h=>⟨by simp_all,by simp_all,by simp_all,by simp_all,by simp_all,(by simpa using h:_∧_).2⟩,fun h=>by have:=h.lo;have:=h.hi;simp;omega⟩,hs.out⟩
    ·refine .Fs 5 20 true (.z zpF (.z zm (.Fs 3 27 true (.z zpF (.zn zg (.ret (Fin.bp OL rfl ?_)))))));first
     |exact ⟨false,rfl,⟨fun h=>(by cases h),fun h=>(by obtain ⟨g1,g2,g3,g4,g5,g6⟩:=h;simp_all;omega)⟩,hs.out⟩
     |exact ⟨false,rfl,⟨fun h=>(by cases h),fun h=>(by obtain ⟨g1,g2,g3,g4,g5,g6⟩:=h;simp_all;done)⟩,hs.out⟩
     |exact ⟨_,rfl,⟨fun h=>⟨by simp_all,by simp_all,by simp_all,by simp_all,by simp_all,(by simpa using h:_∧_).2⟩,fun h=>by have:=h.lo;have:=h.hi;simp;omega⟩,hs.out⟩
   ·refine .Fs 3 15 true (.z zpF (.z zm (.Fs 5 20 true (.z zpF (.z zm (.Fs 3 27 true (.z zpF (.zn zg (.ret (Fin.bp OL rfl ?_))))))))));first
    |exact ⟨false,rfl,⟨fun h=>(by cases h),fun h=>(by obtain ⟨g1,g2,g3,g4,g5,g6⟩:=h;simp_all;omega)⟩,hs.out⟩
    |exact ⟨false,rfl,⟨fun h=>(by cases h),fun h=>(by obtain ⟨g1,g2,g3,g4,g5,g6⟩:=h;simp_all;done)⟩,hs.out⟩
    |exact ⟨_,rfl,⟨fun h=>⟨by simp_all,by simp_all,by simp_all,by simp_all,by simp_all,(by simpa using h:_∧_).2⟩,fun h=>by have:=h.lo;have:=h.hi;simp;omega⟩,hs.out⟩
  ·refine .Fs 5 8 true (.z zpF (.z zm (.Fs 3 15 true (.z zpF (.z zm (.Fs 5 20 true (.z zpF (.z zm (.Fs 3 27 true (.z zpF (.zn zg (.ret (Fin.bp OL rfl ?_)))))))))))));first
   |exact ⟨false,rfl,⟨fun h=>(by cases h),fun h=>(by obtain ⟨g1,g2,g3,g4,g5,g6⟩:=h;simp_all;omega)⟩,hs.out⟩
   |exact ⟨false,rfl,⟨fun h=>(by cases h),fun h=>(by obtain ⟨g1,g2,g3,g4,g5,g6⟩:=h;simp_all;done)⟩,hs.out⟩
   |exact ⟨_,rfl,⟨fun h=>⟨by simp_all,by simp_all,by simp_all,by simp_all,by simp_all,(by simpa using h:_∧_).2⟩,fun h=>by have:=h.lo;have:=h.hi;simp;omega⟩,hs.out⟩
 ·refine .Fs 3 3 true (.z zpF (.z zm (.Fs 5 8 true (.z zpF (.z zm (.Fs 3 15 true (.z zpF (.z zm (.Fs 5 20 true (.z zpF (.z zm (.Fs 3 27 true (.z zpF (.zn zg (.ret (Fin.bp OL rfl ?_))))))))))))))));first
  |exact ⟨false,rfl,⟨fun h=>(by cases h),fun h=>(by obtain ⟨g1,g2,g3,g4,g5,g6⟩:=h;simp_all;omega)⟩,hs.out⟩
  |exact ⟨false,rfl,⟨fun h=>(by cases h),fun h=>(by obtain ⟨g1,g2,g3,g4,g5,g6⟩:=h;simp_all;done)⟩,hs.out⟩
  |exact ⟨_,rfl,⟨fun h=>⟨by simp_all,by simp_all,by simp_all,by simp_all,by simp_all,(by simpa using h:_∧_).2⟩,fun h=>by have:=h.lo;have:=h.hi;simp;omega⟩,hs.out⟩
theorem oq{w:World}{s:Spc}{vst vwa:Value}(hs:St H w σ)(h1:RI H vst s.st)(h2:RI H vwa s.wa)(hb:s.st.length≤1000∧s.wa.length≤1000):
  aaA 112 [.agg #[I s.id,I s.src,vst,vwa,I s.al,I s.up]] w fun v w'=>v=I (s.many:Int)∧St H w' σ:=by
 obtain ⟨ast,cst,rfl⟩:=RI.shape h1;obtain ⟨awa,cwa,rfl⟩:=RI.shape h2;have hm:=ox (a:=(s.st.length:Int)) (b:=(s.wa.length:Int)) (A:=1000) (B:=1000) aj aj;refine Cl.o func112 ntmps112 ag1 ?_;refine .ae (.bx hs fun b1 w hs=>?_);exact .zn zg (.ae (.z (zfa bw) (.y hs (zld an) (.z (cJ af) (.z (zfa bg) (.y hs (zld an) (.z (cJ af) (.z nf (.zn zg (.ret (Fin.bp results112 rfl ⟨by unfold Spc.many;rw [Int.natCast_mul],hs.out⟩)))))))))))
theorem ru{w:World}{s:Spc}{vst vwa:Value}{b:Int}(hs:St H w σ)(h2:RI H vwa s.wa)(hb:s.wa.length≤1000)(ha: -1000≤a∧a≤1000)(hb': -1000≤b∧b≤1000):
  aaA 187 [.agg #[I s.id,I s.src,vst,vwa,I s.al,I s.up],I a,I b] w fun v w'=>v=I (1+a*s.wa.length+b)∧St H w' σ:=by
 obtain ⟨awa,cwa,rfl⟩:=RI.shape h2;have hm:=ox (a:=a) (b:=(s.wa.length:Int)) (A:=1000) (B:=1000) aj aj;refine Cl.o func187 ntmps187 ag3 ?_;refine .ae (.bx hs fun b3 w hs=>?_);exact .zn zg (.ae (.z zm (.z (zfa bg) (.y hs (zld an) (.z (cJ af) (.z nf (.z cz (.z zm (.z cz (.zn zg (.ret (Fin.bp results187 rfl ⟨rfl,hs.out⟩))))))))))))
theorem j8{w:World}{r:Rdg}(hs:St H w σ):
  aaA 181 [.agg #[I r.src,I r.st,I r.wa,I r.val,I r.tol,I r.tape,I r.day]] w fun v w'=>v= .agg #[I r.tape,I r.day]∧St H w' σ:=by
 refine Cl.o func181 ntmps181 ag1 ?_;refine .ae (.bx hs fun b1 w hs=>?_);refine .o (.alloc hs uW rfl fun b2 w hs=>?_);refine .nil (.ae (.z (zfa eD) (.y hs (zld ai) (.z (zfa dW) (.y hs (zld ai) (.z (zbd [_,_] jo) (.o (.aD (vs:=[_,_]) hs rfl rfl cH fun w hs=>?_))))))));exact .nil (.ret (Fin.iz [] [] hs fun w hs=>⟨_,results1 results181 (cO (vs:=[_,_]) hs rfl js cH),rfl,hs.out⟩))
theorem ot{w:World}{b:Int}(hs:St H w σ)(ha:0≤a∧a≤100000)(hb:0≤b∧b≤100000):
  aaA 183 [I a,I b] w fun v w'=>v=I (mb a b)∧St H w' σ:=by
 have hm:=ox (a:=a) (b:=b) (A:=100000) (B:=100000) aj aj;have h0:=Int.mul_nonneg ha.1 hb.1;have NN:0≤(a*b+999).tdiv 1000:=Int.tdiv_nonneg aj aj;have Pe:(a*b+999).tdiv 1000≤a*b+999:=by rw [Int.tdiv_eq_ediv_of_nonneg aj];omega
 refine Cl.o func183 ntmps183 ag2 ?_;exact .ae (.zn zg (.ae (.z zm (.z zm (.z nf (.z cz (.q hs (DK rfl rfl aj aj) (.z Ju (.zn zg (.ret (Fin.bp results183 rfl ⟨rfl,hs⟩)))))))))))
def Am(s:Spc):List (List Value):=(List.range s.many).map fun p=>[Value.agg #[I ((p/s.wa.length:Nat):Int),I ((p%s.wa.length:Nat):Int),I ((p+1:Nat):Int)]]
theorem dJ(s:Spc):(Am s).length=s.many:=by simp [Am]
theorem nI{s:Spc}{p:Nat}(h:p<(Am s).length):(Am s)[p]=[Value.agg #[I ((p/s.wa.length:Nat):Int),I ((p%s.wa.length:Nat):Int),I ((p+1:Nat):Int)]]:=by simp [Am]
theorem tW{s:Spc}{vst vwa:Value}(hb:Row H b [I s.id,I s.src,vst,vwa,I s.al,I s.up])(h1:RI H vst s.st)(h2:RI H vwa s.wa)(Dc:s.st.length≤1000∧s.wa.length≤1000):
  Iter Tryz.prog 92 [Pt b] H (Am s):=by
 intro ly II Ix Ec _ hy H0 Dr σf w hle Ak hs;obtain ⟨ast,cst,rfl⟩:=RI.shape h1;obtain ⟨awa,cwa,rfl⟩:=RI.shape h2;have g2:cellAt H0 b 2=some (.slice ast s.st.length cst):=cellAt.mono (hb.at 2) hle;have g3:cellAt H0 b 3=some (.slice awa s.wa.length cwa):=cellAt.mono (hb.at 3) hle;have hm:s.many≤1000000:=Nat.mul_le_mul Dc.1 Dc.2;refine Cl.o func92 ntmps92 ag2 ?_;refine .ae (.zn zg (.ae (.z (zfa bw) (.y hs (zld an) (.z (cJ af) (.zn zm (.for (N:=s.st.length) (J:=fun i fr w=>fr=[(3,I ((i*s.wa.length:Nat):Int)),(0,.func (.yield ly) #[] #[]),(1,Pt b)]∧∃H1 σb,HLe H H1∧HLe H0 H1∧II (i*s.wa.length) H1 σb∧St H1 w (σb++σf)) aj ?_ ?_ ?_)))))))
 ·exact .mk ⟨by rw [Nat.zero_mul],H0,Dr,hle,HLe.refl _,by rw [Nat.zero_mul];exact Ak,hs⟩
 ·rintro i fr w hi ⟨rfl,H1,σb,aq,eZ,hI,hs⟩;have h23:=cellAt.mono g3 eZ;refine .block (.ae (.z zm (.zn zg (.ae (.z (zfa bg) (.y hs (zld an) (.z (cJ af) (.zn zm (.for (N:=s.wa.length) (J:=fun k fr w=>fr=[(3,I ((i*s.wa.length+k:Nat):Int)),(4,I (i:Int)),(9,I (i:Int)),(8,I (s.st.length:Int)),(0,.func (.yield ly) #[] #[]),(1,Pt b)]∧∃H3 σb,HLe H1 H3∧II (i*s.wa.length+k) H3 σb∧St H3 w (σb++σf)) aj ?_ ?_ ?_)))))))))
  ·exact .mk ⟨rfl,H1,σb,HLe.refl _,hI,hs⟩
  ·rintro k fr w hk ⟨rfl,H3,Mp,bP,Lp,hs⟩;obtain ⟨d1,d2⟩:=SG (nw:=s.wa.length) (i:=i) (k:=k) hk;have fk:=Zf hi hk;refine .block (.ae (.z zm (.zn zg (.ae (.z zm (.z cz (.zn zg (.ae (.z zm (.z zm (.z zm (.z zm (.z (zbd [_,_,_] uJ) ?_)))))))))))));have rG:i*s.wa.length+k<(Am s).length:=by rw [dJ];exact fk
   have xx:=hy (i*s.wa.length+k) rG H3 Mp σf w (aq.trans bP) Lp hs;rw [nI rG,d1,d2,show ((i*s.wa.length+k+1:Nat):Int)=((i*s.wa.length+k:Nat):Int)+1 by omega] at xx;refine .o (.yield rfl rfl xx ?_);rintro v25 w ⟨H5,σ5,g1,hs,g3'⟩;obtain ⟨bb,rfl,gT,gF⟩:=oH g3';refine .zn im (.cond rfl (fun jC=>?_) (fun jC=>?_))
   ·exact .ret (rB (rT (rB (rB (rT (rB (Fin.Qu results92 ⟨H5,σ5,eZ.trans (bP.trans g1),hs,.inr (gF (by simpa using jC))⟩)))))))
   ·exact .skip (nB (nT (.mk ⟨rfl,H5,σ5,bP.trans g1,gT (by simpa using jC),hs⟩)))
  ·rintro fr w ⟨rfl,H3,Mp,bP,Lp,hs⟩;have e:i*s.wa.length+s.wa.length=(i+1)*s.wa.length:=by rw [Nat.add_mul,Nat.one_mul]
   rw [e] at Lp ⊢;exact nB (nT (.mk ⟨rfl,H3,Mp,aq.trans bP,eZ.trans bP,Lp,hs⟩))
 ·rintro fr w ⟨rfl,H1,σb,aq,eZ,hI,hs⟩;exact Fin.yg results92 ⟨H1,σb,eZ,hs,.inl (by rw [dJ];exact hI)⟩
theorem ff{w:World}{s:Spc}{vst vwa:Value}(hs:St H w σ)(h1:RI H vst s.st)(h2:RI H vwa s.wa)(Dc:s.st.length≤1000∧s.wa.length≤1000):
  aaA 44 [.agg #[I s.id,I s.src,vst,vwa,I s.al,I s.up]] w fun u w'=>∃H1 b,HLe H H1∧u= .func (.func 92) #[] #[Pt b]∧Iter Tryz.prog 92 [Pt b] H1 (Am s)∧St H1 w' σ:=by
 obtain ⟨ast,cst,rfl⟩:=RI.shape h1;obtain ⟨awa,cwa,rfl⟩:=RI.shape h2;refine Cl.o func44 ntmps44 ag1 ?_;refine .ae (.bx hs fun b1 w hs=>?_);refine .zn zg (.ae (.q hs (cV (f:=[]) (c:=[_]) rfl rfl) (.zn zg (.ret (Fin.bp results44 rfl ?_)))));obtain ⟨H1,g1,g2,hs⟩:=hs.bQ .here;exact ⟨H1,b1,g1,rfl,tW g2 (h1.mono g1) (h2.mono g1) Dc,hs⟩
set_option maxRecDepth 100000 in
theorem xQ:Tryz.prog.stoodInHeld 127=false:=by kernel_rfl
set_option maxRecDepth 100000 in
theorem xR:Tryz.prog.eqGuardType Tryz.prog.depth 127=false:=by kernel_rfl
theorem sI{w:World}{v:Value}{xs:List TD}(q:TD→Bool)(hs:St H w (en::σ))(hO:bM 2 v (tdc xs).flatten en)(hl:xs.length≤1000000)(hc:∀args w,(callFunc g args).run Tryz.prog w= .ok (.enter g args) w)
  (hp:∀w (t:TD),St H w (en::σ)→aaA g ([.agg #[I t.tape,I t.day]]++cap) w fun u w'=>u= .bool (q t)∧St H w' (en::σ)):
  aaA 234 [v,.func (.func g) #[] cap.toArray] w fun u w'=>∃i:Int,u=I i∧(0≤i↔∃x∈xs,q x=true)∧St H w' (en::σ):=by
 obtain ⟨a,c,rfl⟩:=hO.iQ (sF xs) aj;rw [eJ] at hO ⊢;refine Cl.o func234 ntmps234 ag2 ?_;refine .ae (.zn zg (.seq (.ae (.z zm (.z (cJ bL) (.zn zm (.for (N:=xs.length) (J:=fun k fr w=>fr=[(1,.func (.func g) #[] cap.toArray),(0,.slice a xs.length c)]∧(∀j<k,∀y,xs[j]? =some y→¬q y=true)∧St H w (en::σ)) aj ?_ ?_ ?_)))))))
 ·exact .mk ⟨rfl,fun j hj=>by omega,hs⟩
 ·rintro k fr w hk ⟨rfl,fF,hs⟩;obtain ⟨x,hx⟩:=nth hk;obtain ⟨b,c',sp,hv,rfl,_⟩:=hO.Sv (sF xs) aj (by rw [eJ];omega);rw [eJ] at hv;cases hv
  refine .block (.ae (.z zm (.zn zg (.ae (.z zm (.z zm (.z zm (.z (yp bL cH) (.q hs (jA (vs:=x.c) rfl js cH .here (wO (sF xs) (JG hx) sp)) (.o (.ng (first:=[]) (cap:=cap) rfl rfl hc (hp _ x hs) ?_)))))))))));rintro _ w ⟨rfl,hs⟩;refine .nil (.cond rfl (fun ee=>?_) (fun ee=>?_))
  ·exact .ae (.z zm (.zn zg (.ret (rB (rT (rB (rT (Fin.bp results234 rfl ⟨_,rfl,⟨fun _=>⟨x,List.mem_of_getElem? hx,ee⟩,fun _=>by omega⟩,hs⟩))))))))
  ·exact .skip (nB (nT (.mk ⟨rfl,gv fF hx (by simpa using ee),hs⟩)))
 ·rintro fr w ⟨rfl,fF,hs⟩;refine nT (.ae (.zn zg (.ret (Fin.bp results234 rfl ?_))));exact ⟨_,rfl,⟨fun h=>by omega,fun ⟨x,h1,h2⟩=>by
   obtain ⟨j,hj⟩:=List.getElem?_of_mem h1;exact (fF j (List.getElem?_eq_some_iff.1 hj).1 x hj h2).elim⟩,hs⟩
theorem pL{w:World}{v:Value}{xs:List TD}(q:TD→Bool)(hs:St H w (en::σ))(hO:bM 2 v (tdc xs).flatten en)(hl:xs.length≤1000000)(hc:∀args w,(callFunc g args).run Tryz.prog w= .ok (.enter g args) w)
  (hp:∀w (t:TD),St H w (en::σ)→aaA g ([.agg #[I t.tape,I t.day]]++cap) w fun u w'=>u= .bool (q t)∧St H w' (en::σ)):
  aaA 179 [v,.func (.func g) #[] cap.toArray] w fun u w'=>∃b:Bool,u= .bool b∧(b=true↔∃x∈xs,q x=true)∧St H w' (en::σ):=by
 refine Cl.o func179 ntmps179 ag2 ?_;refine .ae (.zn zg (.ae (.z zm (.z zm (.o (.call call234 rfl (sI q hs hO hl hc hp) ?_))))));rintro _ w ⟨i,rfl,hi,hs⟩;exact .z Bd (.zn zg (.ret (Fin.bp results179 rfl ⟨_,rfl,by simp only [decide_eq_true_eq];exact hi,hs⟩)))
theorem yE{w:World}{v:Value}{xs:List TD}(hs:St H w σ)(hr:RTd H v xs)(hl:xs.length≤1000000):
  aaA 186 [v,.agg #[I t.tape,I t.day]] w fun u w'=>u=I (l7 xs t)∧St H w' σ:=by
 obtain ⟨a,c,rfl⟩:=RTd.shape hr;refine Cl.o func186 ntmps186 ag2 ?_;refine .ae (.bx hs fun b3 w hs=>?_);refine .zn zg (.seq (.ae (.z zm (.z (cJ bL) (.zn zm (.for (N:=xs.length) (J:=fun k fr w=>fr=[(0,.slice a xs.length c),(3,Pt b3)]∧(∀j<k,∀y,xs[j]? =some y→¬y=t)∧St H w (.blk b3 [I t.tape,I t.day]::σ)) aj ?_ ?_ ?_))))))
 ·exact .mk ⟨rfl,fun j hj=>by omega,hs⟩
 ·rintro k fr w hk ⟨rfl,fF,hs⟩;obtain ⟨x,hx⟩:=nth hk;refine .block (.ae (.z zm (.zn zg (.seq (.draw mix rfl hs fun w hs=>?_)))));refine .ys 0 rfl hs [_,_] js cH ?_;refine .z 1 rfl zm ?_;refine .z 2 rfl zm ?_;refine .ixX (enc:=TD.c) (i:=3) hs rfl au .none hr rfl rfl bL cH hx dD ?_;intro tt o14 iW;refine .r (i:=4) hs rfl au .none (bD (vs:=x.c) rfl js cH iW) ?_;refine .z 5 rfl (yT xQ xR mG (fun f hf=>by
   simp only [List.mem_cons,List.not_mem_nil,or_false] at hf
   rcases hf with rfl|rfl<;>exact ⟨by decide,aF,ai⟩) rfl rfl) ?_
  refine .D hs (.cond rfl (fun ee=>?_) (fun ee=>?_))
  ·refine .ae (.z zm (.zn zg (.ret (rB (rT (rB (rT (Fin.bp results186 rfl ?_))))))));have e:x=t:=MA.1 (by have:=of_decide_eq_true ee;exact ⟨this.1.symm,this.2.symm⟩);subst e;exact ⟨by rw [tK hx fun j hj h=>fF j hj _ h rfl],hs.tail⟩
  ·exact .skip (nB (nT (.mk ⟨rfl,gv fF hx (fun e=>by subst e;simp at ee),hs⟩)))
 ·rintro fr w ⟨rfl,fF,hs⟩;exact nT (.ae (.zn zg (.ret (Fin.bp results186 rfl ⟨by rw [BZ fF],hs.tail⟩))))
theorem rz{w:World}{r:Rdg}(hs:St H w σ)(hb:Row H b r.c):
  aaA 180 [.agg #[I t.tape,I t.day],Pt b] w fun u w'=>u= .bool (decide (t=r.td))∧St H w' σ:=by
 have Fa:bE H b 0 r.c:=hb.cells 0 r.c;refine Cl.o func180 ntmps180 ag2 ?_;refine .ae (.bx hs fun b2 w hs=>?_);refine .zn zg (.seq (.draw mix rfl hs fun w hs=>?_));refine .ys 0 rfl hs [_,_] js cH ?_;refine .ys 1 rfl hs [_,_,_,_,_,_,_] iP bF ?_;refine .E 2 hs ?_;refine .call call181 rfl (j8 hs) ?_;rintro _ w ⟨rfl,hs⟩;refine .go ?_;refine .z 3 rfl (yT xQ xR mG (fun f hf=>by
  simp only [List.mem_cons,List.not_mem_nil,or_false] at hf
  rcases hf with rfl|rfl<;>exact ⟨by decide,aF,ai⟩) rfl rfl) ?_
 refine .zw 4 rfl zg ?_;refine .D hs ?_;exact .ret (Fin.bp results180 rfl ⟨by congr 1;rw [decide_eq_decide];exact MA (t:=t) (u:=r.td),hs.tail⟩)
set_option maxHeartbeats 1000000 in
theorem vI{w:World}{vst vwa:Value}(hs:St H w σ)(hr:RRd H vr s.rs)(hl:s.rs.length≤1000000):
  aaA 105 [.agg #[I s.sp.id,I s.sp.src,vst,vwa,I s.sp.al,I s.sp.up,vr,vc]] w fun u w'=>∃H1 en,HLe H H1∧bM 2 u (tdc s.bV).flatten en∧St H1 w' (en::σ):=by
 obtain ⟨ar,cr,rfl⟩:=RRd.shape hr;refine Cl.o func105 ntmps105 ag1 ?_;refine .ae (.bx hs fun b1 w hs=>?_);refine .zn zg (.ae (.zn zg (.seq (.ae (.z (zfa aS) (.y hs (zld fa) (.z (cJ aV) (.zn zm (.for (N:=s.rs.length) (J:=fun k fr w=>∃vo en H1,fr=[(7,.slice ar s.rs.length cr),(3,vo)]∧HLe H H1∧bM 2 vo (tdc (aQ (s.rs.take k))).flatten en∧St H1 w (en::σ)) aj ?_ ?_ ?_)))))))))
 ·exact .mk ⟨_,.nul,H,rfl,HLe.refl _,.nil 2 none,hs.tail.nul⟩
 ·rintro k fr w hk ⟨vo,en,H1,rfl,aq,hO,hs⟩;obtain ⟨r,hx⟩:=nth hk;have O9:=lI hx;have AQ:=mJ s.rs k aj;obtain ⟨ao,co,rfl⟩:=hO.iQ (sF _) aj;rw [eJ] at hO ⊢;refine .block (.ae (.ixX (enc:=Rdg.c) hs (hr.mono aq) rfl rfl aV bF hx dD ?_));intro EJ o11 ta;refine .q hs (bD (vs:=(Rdg.c r)) rfl iP bF ta) (.o (.alloc hs kj rfl fun b5 w hs=>?_));refine .o (.aD (vs:=r.c) hs rfl rfl bF fun w hs=>?_);obtain ⟨H2,aO,r5,hs⟩:=hs.bQ (b:=b5) (c:=r.c) .here;have c5:bE H2 b5 0 r.c:=r5.cells 0 r.c;refine .nil (.ae (.z zm (.q hs (cV (f:=[]) (c:=[_]) rfl rfl) (.o (.call call179 rfl (pL (g:=180) (cap:=[Pt b5]) (fun t=>decide (t=r.td)) hs hO aj call180 (fun w t hs=>rz hs r5)) ?_)))));rintro _ w ⟨Df,rfl,Em,hs⟩;refine .zn im (.cond rfl (fun ee=>?_) (fun ee=>?_))
  ·refine .region (.z zm (.q hs (bD (vs:=r.c) rfl iP bF c5) (.o (.call call181 rfl (j8 (r:=r) hs) ?_))));rintro _ w ⟨rfl,hs⟩;refine .o (.buildSlice (cells:=[_,_]) hs jD rfl rfl fun PV w hs=>?_);refine .o (.append (ys:=r.td.c) hs eY rfl rfl hO (.own .here rfl rfl) (by simp [TD.c,Value.oneCell']) (fun l h=>by rw [bH _ (sF _),eJ] at h;omega) ?_);intro v21 en21 w eh hs;refine .zn zg (nB (nT ?_));have hn:r.td∉aQ (s.rs.take k):=fun hm=>by
    rw [Em.2 ⟨_,hm,br⟩] at ee;cases ee
   rw [←BY,show aQ (s.rs.take k)++[r.td]=aQ (s.rs.take (k+1)) by rw [O9];unfold uM;rw [if_neg hn]] at eh;exact .mk ⟨_,_,H2,rfl,aq.trans aO,eh,hs.sb⟩
  ·refine .skip (nB (nT ?_));have hm:r.td∈aQ (s.rs.take k):=by
    obtain ⟨x,h1,h2⟩:=Em.1 (by simpa using ee);rw [←of_decide_eq_true h2];exact h1
   exact .mk ⟨_,_,H2,rfl,aq.trans aO,by rw [O9];unfold uM;rw [if_pos hm];exact hO,hs⟩
 ·rintro fr w ⟨vo,en,H1,rfl,aq,hO,hs⟩;rw [List.take_length] at hO;exact nT (.ae (.z zm (.zn zg (.ret (Fin.bp results105 rfl ⟨H1,en,aq,hO,hs⟩)))))
theorem tU{w:World}{vst vwa:Value}(hs:St H w σ)(hr:RRd H vr s.rs)(hl:s.rs.length≤1000000):
  aaA 105 [.agg #[I s.sp.id,I s.sp.src,vst,vwa,I s.sp.al,I s.sp.up,vr,vc]] w fun u w'=>∃H1,HLe H H1∧RTd H1 u s.bV∧St H1 w' σ:=by
 refine (vI hs hr hl).mono ?_;rintro u w' ⟨H1,en,aq,hO,hs⟩;have AQ:=dB s.rs;have Wx:s.bV.length≤1000000:=by unfold Srv.bV;omega
 obtain ⟨H2,aO,hR,hs⟩:=bM.bQ (m:=2) hO (sF _) aj (by rw [eJ];omega) hs .here;exact ⟨H2,aq.trans aO,hR,hs⟩
end Go.Proofs.YtlgfjghdgbhkhaaGreat
