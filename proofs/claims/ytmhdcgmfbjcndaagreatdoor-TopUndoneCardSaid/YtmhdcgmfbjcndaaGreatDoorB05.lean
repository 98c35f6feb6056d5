import Derived.Test.YtmhdcgmfbjcndaaGreatDoorB04
import Derived.Test.YtmhdcgmfbjcndaaGreatDoorProg
set_option linter.unusedVariables false
set_option linter.unusedSimpArgs false
set_option maxRecDepth 100000
set_option maxHeartbeats 8000000
namespace Go.Proofs.YtmhdcgmfbjcndaaGreatDoor.P
open Go.RowKit Go.Proofs.aa.ag Go.Proofs.aa.ao Go.Proofs.aa.ay
attribute [local go_sem] bD bw cj bV bj bk bG bH
def akP:Option Int→Value
 |none=> .nilIface
 |some c=> .iface 0 (.int .i64 c)
theorem gL:akP none= .nilIface:=rfl
theorem gM(c:Int):akP (some c)= .iface 0 (.int .i64 c):=rfl
theorem pT:(Tryz.prog.info? 3).map (fun i=>(i.zero,i.size,i.bytes))=some (some (.int .i64 0),1,8):=by kernel_rfl
theorem kG:(Tryz.prog.info? 5).map (fun i=>(i.zero,i.size,i.bytes))=some (some (.int .u8 0),1,1):=by kernel_rfl
theorem lh:(Tryz.prog.info? 33).map (fun i=>(i.zero,i.size,i.bytes))=some (some (.slice none 0 0),1,24):=by kernel_rfl
theorem oX:(Tryz.prog.info? 43).map (fun i=>(i.zero,i.size,i.bytes))=some (some (.agg #[(.int .i64 0),(.bool false),(.bool false),(.int .i64 0),(.int .i64 0)]),5,32):=by kernel_rfl
theorem xB:(Tryz.prog.info? 58).map (fun i=>(i.zero,i.size,i.bytes))=some (some (.agg #[(.string ⟨#[]⟩),(.int .i64 0),(.int .i64 0)]),3,32):=by kernel_rfl
theorem Dy:(Tryz.prog.info? 66).map (fun i=>(i.zero,i.size,i.bytes))=some (some (.agg #[(.int .i64 0),(.int .i64 0)]),2,16):=by kernel_rfl
theorem TJ:(Tryz.prog.info? 107).map (fun i=>(i.zero,i.size,i.bytes))=some (some (.agg #[(.int .i64 0),(.int .i64 0)]),2,16):=by kernel_rfl
structure S23 where
 f0:Int
 f1:Int
 f2:Int
 f3:Int
def k23:Kd S23:=Kd.Ts (Kd.pair (Kd.int .i64) (Kd.pair (Kd.int .i64) (Kd.pair (Kd.int .i64) (Kd.int .i64)))) (fun x:S23=>(x.f0,x.f1,x.f2,x.f3))
theorem Pn{w:World}{x:S23}{cs:List Value}(h:k23.K w x cs):cs=[.int .i64 x.f0,.int .i64 x.f1,.int .i64 x.f2,.int .i64 x.f3]:=by
 obtain⟨_,_,rfl,rfl,⟨_,_,rfl,rfl,⟨_,_,rfl,rfl,rfl⟩⟩⟩:=h;exact rfl
structure cU where
 f0:Int
 f1:Bool
 f2:Bool
 f3:Int
 f4:Int
def z43:cU:=⟨(0:Int),false,false,(0:Int),(0:Int)⟩
def gW:Kd cU:=Kd.Ts (Kd.pair (Kd.int .i64) (Kd.pair Kd.bool (Kd.pair Kd.bool (Kd.pair (Kd.int .i64) (Kd.int .i64))))) (fun x:cU=>(x.f0,x.f1,x.f2,x.f3,x.f4))
theorem vE{w:World}{x:cU}{cs:List Value}(h:gW.K w x cs):cs=[.int .i64 x.f0,.bool x.f1,.bool x.f2,.int .i64 x.f3,.int .i64 x.f4]:=by
 obtain⟨_,_,rfl,rfl,⟨_,_,rfl,rfl,⟨_,_,rfl,rfl,⟨_,_,rfl,rfl,rfl⟩⟩⟩⟩:=h;exact rfl
theorem Po(w:World)(x:cU):gW.K w x [.int .i64 x.f0,.bool x.f1,.bool x.f2,.int .i64 x.f3,.int .i64 x.f4]:=⟨[.int .i64 x.f0],[.bool x.f1,.bool x.f2,.int .i64 x.f3,.int .i64 x.f4],rfl,rfl,⟨[.bool x.f1],[.bool x.f2,.int .i64 x.f3,.int .i64 x.f4],rfl,rfl,⟨[.bool x.f2],[.int .i64 x.f3,.int .i64 x.f4],rfl,rfl,⟨[.int .i64 x.f3],[.int .i64 x.f4],rfl,rfl,rfl⟩⟩⟩⟩
theorem tS(w:World)(base:Nat)(ok:Nat→Prop)(x:cU):gW.M w base ok x [.int .i64 x.f0,.bool x.f1,.bool x.f2,.int .i64 x.f3,.int .i64 x.f4]:=⟨[.int .i64 x.f0],[.bool x.f1,.bool x.f2,.int .i64 x.f3,.int .i64 x.f4],rfl,rfl,⟨[.bool x.f1],[.bool x.f2,.int .i64 x.f3,.int .i64 x.f4],rfl,rfl,⟨[.bool x.f2],[.int .i64 x.f3,.int .i64 x.f4],rfl,rfl,⟨[.int .i64 x.f3],[.int .i64 x.f4],rfl,rfl,rfl⟩⟩⟩⟩
def aM(xs:List cU)(i:Int):cU:=xs.getD i.toNat z43
theorem gq{w:World}{A:Option Addr}{n:Nat}{xs:List cU}(h:Kd.C gW w A n xs)(i:Int)(h0:0≤i)(h1:i<n):∃ad,A=some ad∧w.cell? (ad.add (i.toNat*5))=some (.int .i64 (aM xs i).f0)∧w.cell? ⟨(ad.add (i.toNat*5)).block,(ad.add (i.toNat*5)).off+1,none⟩=some (.bool (aM xs i).f1)∧w.cell? ⟨(ad.add (i.toNat*5)).block,(ad.add (i.toNat*5)).off+2,none⟩=some (.bool (aM xs i).f2)∧w.cell? ⟨(ad.add (i.toNat*5)).block,(ad.add (i.toNat*5)).off+3,none⟩=some (.int .i64 (aM xs i).f3)∧w.cell? ⟨(ad.add (i.toNat*5)).block,(ad.add (i.toNat*5)).off+4,none⟩=some (.int .i64 (aM xs i).f4):=by
 obtain⟨ad,c,e,_,hK,jr⟩:=Kd.vv h z43 i h0 h1;have hc:∀j u,c[j]? =some u→w.cell? (ad.add (i.toNat*5+j))=some u:=jr;obtain rfl:=vE hK;exact⟨ad,e,hc 0 _ rfl,by rw[←jW _ _ 1 (by omega)];exact hc 1 _ rfl,by rw[←jW _ _ 2 (by omega)];exact hc 2 _ rfl,by rw[←jW _ _ 3 (by omega)];exact hc 3 _ rfl,by rw[←jW _ _ 4 (by omega)];exact hc 4 _ rfl⟩
structure Pp where
 f0:Int
 f1:Int
def z32:Pp:=⟨(0:Int),(0:Int)⟩
def k32:Kd Pp:=Kd.Ts (Kd.pair (Kd.int .i64) (Kd.int .i64)) (fun x:Pp=>(x.f0,x.f1))
theorem Pq{w:World}{x:Pp}{cs:List Value}(h:k32.K w x cs):cs=[.int .i64 x.f0,.int .i64 x.f1]:=by
 obtain⟨_,_,rfl,rfl,rfl⟩:=h;exact rfl
theorem TK(w:World)(base:Nat)(ok:Nat→Prop)(x:Pp):k32.M w base ok x [.int .i64 x.f0,.int .i64 x.f1]:=⟨[.int .i64 x.f0],[.int .i64 x.f1],rfl,rfl,rfl⟩
structure dJ where
 f0:ByteArray
 f1:Pp
def z58:dJ:=⟨(⟨#[]⟩:ByteArray),z32⟩
def gQ:Kd dJ:=Kd.Ts (Kd.pair Kd.string k32) (fun x:dJ=>(x.f0,x.f1))
theorem Pr{w:World}{x:dJ}{cs:List Value}(h:gQ.K w x cs):cs=[.string x.f0,.int .i64 x.f1.f0,.int .i64 x.f1.f1]:=by
 obtain⟨_,_,rfl,rfl,s1⟩:=h;obtain rfl:=Pq s1;exact rfl
theorem Lq(w:World)(base:Nat)(ok:Nat→Prop)(x:dJ):gQ.M w base ok x [.string x.f0,.int .i64 x.f1.f0,.int .i64 x.f1.f1]:=⟨[.string x.f0],[.int .i64 x.f1.f0,.int .i64 x.f1.f1],rfl,rfl,(TK w base ok x.f1)⟩
def bK(xs:List dJ)(i:Int):dJ:=xs.getD i.toNat z58
theorem nW{w:World}{A:Option Addr}{n:Nat}{xs:List dJ}(h:Kd.C gQ w A n xs)(i:Int)(h0:0≤i)(h1:i<n):∃ad,A=some ad∧w.cell? (ad.add (i.toNat*3))=some (.string (bK xs i).f0)∧w.cell? ⟨(ad.add (i.toNat*3)).block,(ad.add (i.toNat*3)).off+1,none⟩=some (.int .i64 (bK xs i).f1.f0)∧w.cell? ⟨(ad.add (i.toNat*3)).block,(ad.add (i.toNat*3)).off+2,none⟩=some (.int .i64 (bK xs i).f1.f1):=by
 obtain⟨ad,c,e,_,hK,jr⟩:=Kd.vv h z58 i h0 h1;have hc:∀j u,c[j]? =some u→w.cell? (ad.add (i.toNat*3+j))=some u:=jr;obtain rfl:=Pr hK;exact⟨ad,e,hc 0 _ rfl,by rw[←jW _ _ 1 (by omega)];exact hc 1 _ rfl,by rw[←jW _ _ 2 (by omega)];exact hc 2 _ rfl⟩
def dn(xs:List (List Int))(i:Int):(List Int):=xs.getD i.toNat ([]:List Int)
theorem oY{w:World}{A:Option Addr}{n:Nat}{xs:List (List Int)}(h:Kd.C (Kd.slice 5 (Kd.int .u8)) w A n xs)(i:Int)(h0:0≤i)(h1:i<n):∃ad A0 c0,A=some ad∧w.cell? (ad.add i.toNat)=some (.slice A0 (dn xs i).length c0)∧(dn xs i).length≤c0∧(Kd.int .u8).C w A0 (dn xs i).length (dn xs i):=by
 obtain⟨ad,c,e,_,hK,jr⟩:=Kd.vv h ([]:List Int) i h0 h1;have hc:∀j u,c[j]? =some u→w.cell? (ad.add (i.toNat*1+j))=some u:=jr;obtain⟨A0,c0,rfl,l0,g0⟩:=hK;exact⟨ad,A0,c0,e,by have hq:=hc 0 _ rfl;rwa [Nat.mul_one,Nat.add_zero] at hq,l0,g0⟩
structure S28 where
 f0:S23
 f1:Int
 f2:Int
 f3:(List cU)
 f4:(List dJ)
 f5:(List (List Int))
def k28:Kd S28:=Kd.Ts (Kd.pair k23 (Kd.pair (Kd.int .i64) (Kd.pair (Kd.int .i64) (Kd.pair (Kd.slice 43 gW) (Kd.pair (Kd.slice 58 gQ) (Kd.slice 33 (Kd.slice 5 (Kd.int .u8)))))))) (fun x:S28=>(x.f0,x.f1,x.f2,x.f3,x.f4,x.f5))
theorem Ps{w:World}{x:S28}{cs:List Value}(h:k28.K w x cs):∃A6 c6 A7 c7 A8 c8,cs=[.int .i64 x.f0.f0,.int .i64 x.f0.f1,.int .i64 x.f0.f2,.int .i64 x.f0.f3,.int .i64 x.f1,.int .i64 x.f2,.slice A6 x.f3.length c6,.slice A7 x.f4.length c7,.slice A8 x.f5.length c8]∧x.f3.length≤c6∧gW.C w A6 x.f3.length x.f3∧x.f4.length≤c7∧gQ.C w A7 x.f4.length x.f4∧x.f5.length≤c8∧(Kd.slice 5 (Kd.int .u8)).C w A8 x.f5.length x.f5:=by
 obtain⟨_,_,rfl,s0,⟨_,_,rfl,rfl,⟨_,_,rfl,rfl,⟨_,_,rfl,⟨A6,c6,rfl,l6,g6⟩,⟨_,_,rfl,⟨A7,c7,rfl,l7,g7⟩,⟨A8,c8,rfl,l8,g8⟩⟩⟩⟩⟩⟩:=h;obtain rfl:=Pn s0;exact⟨A6,c6,A7,c7,A8,c8,rfl,l6,g6,l7,g7,l8,g8⟩
structure S64 where
 f0:Int
 f1:Int
 f2:Int
def z64:S64:=⟨(0:Int),(0:Int),(0:Int)⟩
def Ju:Kd S64:=Kd.Ts (Kd.pair (Kd.int .i64) (Kd.pair (Kd.int .i64) (Kd.int .i64))) (fun x:S64=>(x.f0,x.f1,x.f2))
theorem Pt{w:World}{x:S64}{cs:List Value}(h:Ju.K w x cs):cs=[.int .i64 x.f0,.int .i64 x.f1,.int .i64 x.f2]:=by
 obtain⟨_,_,rfl,rfl,⟨_,_,rfl,rfl,rfl⟩⟩:=h;exact rfl
theorem M5{w:World}{base:Nat}{ok:Nat→Prop}{x:S64}{cs:List Value}(h:Ju.M w base ok x cs):cs=[.int .i64 x.f0,.int .i64 x.f1,.int .i64 x.f2]:=by
 obtain⟨_,_,rfl,rfl,⟨_,_,rfl,rfl,rfl⟩⟩:=h;exact rfl
theorem Lr(w:World)(base:Nat)(ok:Nat→Prop)(x:S64):Ju.M w base ok x [.int .i64 x.f0,.int .i64 x.f1,.int .i64 x.f2]:=⟨[.int .i64 x.f0],[.int .i64 x.f1,.int .i64 x.f2],rfl,rfl,⟨[.int .i64 x.f1],[.int .i64 x.f2],rfl,rfl,rfl⟩⟩
def gR(xs:List S64)(i:Int):S64:=xs.getD i.toNat z64
theorem Pu{w:World}{A:Option Addr}{n:Nat}{xs:List S64}(h:Kd.C Ju w A n xs)(i:Int)(h0:0≤i)(h1:i<n):∃ad,A=some ad∧w.cell? (ad.add (i.toNat*3))=some (.int .i64 (gR xs i).f0)∧w.cell? ⟨(ad.add (i.toNat*3)).block,(ad.add (i.toNat*3)).off+1,none⟩=some (.int .i64 (gR xs i).f1)∧w.cell? ⟨(ad.add (i.toNat*3)).block,(ad.add (i.toNat*3)).off+2,none⟩=some (.int .i64 (gR xs i).f2):=by
 obtain⟨ad,c,e,_,hK,jr⟩:=Kd.vv h z64 i h0 h1;have hc:∀j u,c[j]? =some u→w.cell? (ad.add (i.toNat*3+j))=some u:=jr;obtain rfl:=Pt hK;exact⟨ad,e,hc 0 _ rfl,by rw[←jW _ _ 1 (by omega)];exact hc 1 _ rfl,by rw[←jW _ _ 2 (by omega)];exact hc 2 _ rfl⟩
structure fl where
 f0:Int
 f1:Int
def z107:fl:=⟨(0:Int),(0:Int)⟩
def uM:Kd fl:=Kd.Ts (Kd.pair (Kd.int .i64) (Kd.int .i64)) (fun x:fl=>(x.f0,x.f1))
theorem M6{w:World}{x:fl}{cs:List Value}(h:uM.K w x cs):cs=[.int .i64 x.f0,.int .i64 x.f1]:=by
 obtain⟨_,_,rfl,rfl,rfl⟩:=h;exact rfl
theorem Jv{w:World}{base:Nat}{ok:Nat→Prop}{x:fl}{cs:List Value}(h:uM.M w base ok x cs):cs=[.int .i64 x.f0,.int .i64 x.f1]:=by
 obtain⟨_,_,rfl,rfl,rfl⟩:=h;exact rfl
theorem Pv(w:World)(base:Nat)(ok:Nat→Prop)(x:fl):uM.M w base ok x [.int .i64 x.f0,.int .i64 x.f1]:=⟨[.int .i64 x.f0],[.int .i64 x.f1],rfl,rfl,rfl⟩
def zv(xs:List fl)(i:Int):fl:=xs.getD i.toNat z107
theorem TL{w:World}{A:Option Addr}{n:Nat}{xs:List fl}(h:Kd.C uM w A n xs)(i:Int)(h0:0≤i)(h1:i<n):∃ad,A=some ad∧w.cell? (ad.add (i.toNat*2))=some (.int .i64 (zv xs i).f0)∧w.cell? ⟨(ad.add (i.toNat*2)).block,(ad.add (i.toNat*2)).off+1,none⟩=some (.int .i64 (zv xs i).f1):=by
 obtain⟨ad,c,e,_,hK,jr⟩:=Kd.vv h z107 i h0 h1;have hc:∀j u,c[j]? =some u→w.cell? (ad.add (i.toNat*2+j))=some u:=jr;obtain rfl:=M6 hK;exact⟨ad,e,hc 0 _ rfl,by rw[←jW _ _ 1 (by omega)];exact hc 1 _ rfl⟩
structure eE where
 f0:Int
 f1:Int
def z66:eE:=⟨(0:Int),(0:Int)⟩
def zb:Kd eE:=Kd.Ts (Kd.pair (Kd.int .i64) (Kd.int .i64)) (fun x:eE=>(x.f0,x.f1))
theorem Pw{w:World}{x:eE}{cs:List Value}(h:zb.K w x cs):cs=[.int .i64 x.f0,.int .i64 x.f1]:=by
 obtain⟨_,_,rfl,rfl,rfl⟩:=h;exact rfl
theorem M7{w:World}{base:Nat}{ok:Nat→Prop}{x:eE}{cs:List Value}(h:zb.M w base ok x cs):cs=[.int .i64 x.f0,.int .i64 x.f1]:=by
 obtain⟨_,_,rfl,rfl,rfl⟩:=h;exact rfl
theorem vF(w:World)(base:Nat)(ok:Nat→Prop)(x:eE):zb.M w base ok x [.int .i64 x.f0,.int .i64 x.f1]:=⟨[.int .i64 x.f0],[.int .i64 x.f1],rfl,rfl,rfl⟩
def bU(xs:List eE)(i:Int):eE:=xs.getD i.toNat z66
theorem oZ{w:World}{A:Option Addr}{n:Nat}{xs:List eE}(h:Kd.C zb w A n xs)(i:Int)(h0:0≤i)(h1:i<n):∃ad,A=some ad∧w.cell? (ad.add (i.toNat*2))=some (.int .i64 (bU xs i).f0)∧w.cell? ⟨(ad.add (i.toNat*2)).block,(ad.add (i.toNat*2)).off+1,none⟩=some (.int .i64 (bU xs i).f1):=by
 obtain⟨ad,c,e,_,hK,jr⟩:=Kd.vv h z66 i h0 h1;have hc:∀j u,c[j]? =some u→w.cell? (ad.add (i.toNat*2+j))=some u:=jr;obtain rfl:=Pw hK;exact⟨ad,e,hc 0 _ rfl,by rw[←jW _ _ 1 (by omega)];exact hc 1 _ rfl⟩
theorem WT(d:Nat)(w:World)(x0 y0:Int)(x1 y1 x2 y2:Bool)(x3 y3 x4 y4:Int):
 (Op.equalIn (d+2) 43 (.agg #[.int .i64 x0,.bool x1,.bool x2,.int .i64 x3,.int .i64 x4]) (.agg #[.int .i64 y0,.bool y1,.bool y2,.int .i64 y3,.int .i64 y4])).run Tryz.prog w= .ok (x0==y0&&(x1==y1&&(x2==y2&&(x3==y3&&(x4==y4))))) w:=by
 refine xA Tryz.underlying43 (by kernel_rfl) ?_;refine gG (by rfl) (by go_simp;rfl) (by go_simp;rfl) (by go_simp) ?_;refine gG (by rfl) (by go_simp;rfl) (by go_simp;rfl) (by go_simp) ?_;refine gG (by rfl) (by go_simp;rfl) (by go_simp;rfl) (by go_simp) ?_;refine gG (by rfl) (by go_simp;rfl) (by go_simp;rfl) (by go_simp) ?_;exact qP (by rfl) (by go_simp;rfl) (by go_simp;rfl) (by go_simp)
theorem aei(d:Nat)(w:World)(x0 y0 x1 y1 x2 y2:Int):
 (Op.equalIn (d+2) 80 (.agg #[.int .i64 x0,.int .i64 x1,.int .i64 x2]) (.agg #[.int .i64 y0,.int .i64 y1,.int .i64 y2])).run Tryz.prog w= .ok (x0==y0&&(x1==y1&&(x2==y2))) w:=by
 refine xA Tryz.underlying80 (by kernel_rfl) ?_;refine gG (by rfl) (by go_simp;rfl) (by go_simp;rfl) (by go_simp) ?_;refine gG (by rfl) (by go_simp;rfl) (by go_simp;rfl) (by go_simp) ?_;exact qP (by rfl) (by go_simp;rfl) (by go_simp;rfl) (by go_simp)
theorem aej(d:Nat)(w:World)(x0 y0 x1 y1 x2 y2 x3 y3 x4 y4 x5 y5 x6 y6 x7 y7 x8 y8:Int):
 (Op.equalIn (d+3) 82 (.agg #[.int .i64 x0,.int .i64 x1,.int .i64 x2,.int .i64 x3,.int .i64 x4,.int .i64 x5,.int .i64 x6,.int .i64 x7,.int .i64 x8]) (.agg #[.int .i64 y0,.int .i64 y1,.int .i64 y2,.int .i64 y3,.int .i64 y4,.int .i64 y5,.int .i64 y6,.int .i64 y7,.int .i64 y8])).run Tryz.prog w= .ok ((x0==y0&&(x1==y1&&(x2==y2)))&&(x3==y3&&(x4==y4&&(x5==y5&&(x6==y6&&(x7==y7&&(x8==y8))))))) w:=by
 refine xA Tryz.underlying82 (by kernel_rfl) ?_;refine gG (by rfl) (by go_simp) (by go_simp) (aei (d+0) w _ _ _ _ _ _) ?_;refine gG (by rfl) (by go_simp;rfl) (by go_simp;rfl) (by go_simp) ?_;refine gG (by rfl) (by go_simp;rfl) (by go_simp;rfl) (by go_simp) ?_;refine gG (by rfl) (by go_simp;rfl) (by go_simp;rfl) (by go_simp) ?_;refine gG (by rfl) (by go_simp;rfl) (by go_simp;rfl) (by go_simp) ?_;refine gG (by rfl) (by go_simp;rfl) (by go_simp;rfl) (by go_simp) ?_;exact qP (by rfl) (by go_simp;rfl) (by go_simp;rfl) (by go_simp)
theorem aex(d:Nat)(w:World)(x0 y0 x1 y1:Int):
 (Op.equalIn (d+2) 32 (.agg #[.int .i64 x0,.int .i64 x1]) (.agg #[.int .i64 y0,.int .i64 y1])).run Tryz.prog w= .ok (x0==y0&&(x1==y1)) w:=by
 refine xA Tryz.underlying32 (by kernel_rfl) ?_;refine gG (by rfl) (by go_simp;rfl) (by go_simp;rfl) (by go_simp) ?_;exact qP (by rfl) (by go_simp;rfl) (by go_simp;rfl) (by go_simp)
theorem Xk(d:Nat)(w:World)(x0 y0:ByteArray)(x1 y1 x2 y2:Int):
 (Op.equalIn (d+3) 58 (.agg #[.string x0,.int .i64 x1,.int .i64 x2]) (.agg #[.string y0,.int .i64 y1,.int .i64 y2])).run Tryz.prog w= .ok (x0.toList==y0.toList&&((x1==y1&&(x2==y2)))) w:=by
 refine xA Tryz.underlying58 (by kernel_rfl) ?_;refine gG (by rfl) (by go_simp;rfl) (by go_simp;rfl) (by go_simp) ?_;exact qP (by rfl) (by go_simp) (by go_simp) (aex (d+0) w _ _ _ _)
end Go.Proofs.YtmhdcgmfbjcndaaGreatDoor.P
namespace Go.Proofs.YtmhdcgmfbjcndaaGreatDoor.P
open Go Go.RowKit Go.Proofs.aa.ag Go.Proofs.aa.ao
variable {P:Program}{md:Region.Mode}{ops:Array Oper}{Q:Exit→Act→World→Prop}{S:World→Prop}{ds:List Nat}{oi oj:Oper}{v:Value}{fuel:Nat}{l l' l'':Array Bool}{a a':Act}{w w1:World}{K:Act→World→Prop}
theorem cP(i n:Nat)(h:aZ P md ops Q S ds fuel l' a' w)(hi:ops[i]? =some oi:=by rfl)(hN:oi.dst=some n:=by rfl)(hl:l.setIfInBounds i true=l':=by(simp only[List.setIfInBounds_toArray,List.set_cons_zero,List.set_cons_succ];rfl))(hc:O2 md ops l l' i=true:=by kernel_rfl)(hQ:∀c a w,Q (.panic c) (a.put oi.dst v) w→Q (.panic c) a w:=by exact fun _ _ _ h=>h)(hw:Region.wanted oi (yielded ops a.tmps)=true:=by rfl)(hy:∀w,(execOp a.eval oi).run P w= .ok (.value v) w:=by(intro w';go_simp;with_reducible rfl))(ha:a.put (some n) v=a':=by(simp only[Act.put,List.setIfInBounds_toArray,List.set_cons_zero,List.set_cons_succ,bp,bF];rfl)):aZ P md ops Q S ds (fuel+1) l a w:=dd l' hi hN hc hQ (.inl ⟨hw,hy⟩) ha h
theorem lq(i n:Nat)(hS:S w)(h:aZ P md ops Q S ds fuel l' a' w)(hi:ops[i]? =some oi:=by rfl)(hN:oi.dst=some n:=by rfl)(hl:l.setIfInBounds i true=l':=by(simp only[List.setIfInBounds_toArray,List.set_cons_zero,List.set_cons_succ];rfl))(hc:Cw md ops ds l l' i=true:=by kernel_rfl)(hQ:∀c a w,Q (.panic c) (a.put oi.dst v) w→Q (.panic c) a w:=by exact fun _ _ _ h=>h)(hw:Region.wanted oi (yielded ops a.tmps)=true:=by rfl)(hy:∀w,S w→(execOp a.eval oi).run P w= .ok (.value v) w:=by(intro w' hz;go_simp;with_reducible rfl))(ha:a.put (some n) v=a':=by(simp only[Act.put,List.setIfInBounds_toArray,List.set_cons_zero,List.set_cons_succ,bp,bF];rfl)):aZ P md ops Q S ds (fuel+1) l a w:=ke l' hi hN hc hQ (.inl ⟨hw,hy⟩) hS ha h
theorem nm_(h:aZ P md ops Q S ds fuel l a' w)(ha:a=a':=by(show Act.put _ (some _) _=_;simp only[Act.put,List.setIfInBounds_toArray,List.set_cons_zero,List.set_cons_succ,bp,bF];rfl)):aZ P md ops Q S ds fuel l a w:=ac6 ha h
end Go.Proofs.YtmhdcgmfbjcndaaGreatDoor.P
namespace Go.Proofs.YtmhdcgmfbjcndaaGreatDoor.P
open Go Go.RowKit Go.Proofs.aa.ag Go.Proofs.aa.ao Go.Proofs.aa.ay
theorem bl{n:Nat}{w W:World}(h:Below n w W:=by repeat (first|(with_reducible first|exact HB.1|apply ab|apply cZ|apply eZ)|(with_reducible refine aH ?_ (ae.out (by assumption)))|exact HB.1)):Below n w W:=h
theorem ak{p:Prop}(h:p):ae p:=⟨h⟩
theorem kn{p:Prop}(h:p:=by first|exact Kd.lN _ _ _ _ _|exact Kd.WC _ _ _ _ _|exact Kd.apn _ _ _ _ _|exact Kd.apo _ _ _ _ _|exact Kd.adi _ _ _ _ _):p:=h
theorem re{p:Prop}(h:p:=by first|rfl|(simp [gL,gM]<;>rfl)|(simp [*,gL,gM]<;>rfl)):p:=h
theorem dt{p:Prop}[Decidable p](h:decide p=true:=by first|(with_reducible assumption)|assumption):p:=of_decide_eq_true h
theorem nm{α:Type}(x:α):∃b,ae (b=x):=⟨x,⟨rfl⟩⟩
theorem nf:¬(false=true):=by decide
theorem bi{α β:Type}{x:Option α}{f:α→Option β}{b:β}(h:x.bind f=some b):∃a,ae (x=some a)∧f a=some b:=let ⟨a,p,q⟩:=Option.bind_eq_some_iff.mp h;⟨a,⟨p⟩,q⟩
theorem io{α:Type}{c:Prop}[Decidable c]{x:Option α}{b:α}(h:(if c then x else none)=some b):c∧x=some b:=by
 by_cases hc:c
 ·exact⟨hc,by rwa [if_pos hc] at h⟩
 ·rw[if_neg hc] at h;exact absurd h (by simp)
theorem rs{α:Sort _}{a b:α}(h:a=b:=by first|rfl|(simp;done)|(simp [*];done)):a=b:=h
section
variable {w w0 w1 W:World}{g g' t:Nat}{o:Obj}{C:Array Value}{n:Nat}
theorem qb(hb:Below W.heap.size W w1)(h:Below w.heap.size w W:=by exact bl):ae (Below w.heap.size w w1):=⟨bR h hb⟩
theorem qg(hg:g=W.heap.size)(h:Below w.heap.size w W:=by exact bl):ae (w.heap.size≤g):=⟨by rw[hg];exact aq h⟩
theorem bu(h:ae (w0.heap[g]? =some o))(hw:w0.heap[g]? =some o→w.heap[g]? =some o:=by intro h;(with_reducible repeat (first|refine cW ?_ _|refine aY ?_|refine ar ?_ _|refine aJ ?_ (ae.out (by assumption)) _));exact h):w.heap[g]? =some o:=hw h.1
theorem qk(h:ae (w0.heap[g]? =some o))(hb:Below W.heap.size W w1)(hw:w0.heap[g]? =some o→W.heap[g]? =some o:=by intro h;exact bu ⟨h⟩):ae (w1.heap[g]? =some o):=⟨fe (hw h.1) hb⟩
theorem nl(h:ae (w0.heap[g]? =some o))(hg:g'=W.heap.size)(hw:w0.heap[g]? =some o→W.heap[g]? =some o:=by intro h;exact bu ⟨h⟩):ae (g≠g'):=⟨by rw[hg];exact Nat.ne_of_lt (aN (hw h.1))⟩
theorem nr(h:ae (w0.heap[g]? =some o))(hg:g'=W.heap.size)(hw:w0.heap[g]? =some o→W.heap[g]? =some o:=by intro h;exact bu ⟨h⟩):ae (g'≠g):=⟨by rw[hg];exact Nat.ne_of_gt (aN (hw h.1))⟩
theorem cL(h:ae (w.heap[g]? =some (.cells C t (0,0))))(i:Nat):w.cell? ⟨g,i,none⟩=C[i]? :=ah h.1 i
theorem ce{i:Nat}{v:Value}(h:ae (w.heap[g]? =some (.cells C t (0,0))))(e:C[i]? =some v):w.cell? ⟨g,i,none⟩=some v:=(ah h.1 i).trans e
theorem fZ(h:ae (w.heap[g]? =some (.cells C t (0,0))))(i:Nat):w.frozen? ⟨g,i,none⟩=false:=bn h.1 i
theorem hy{p:Addr}{v:Value}(h:w.cell? p=some v)(hB:Below w.heap.size w W:=by exact HB.1):W.cell? p=some v:=(hB.cell (World.block_lt_of_cell? w _ h)).trans h
end
section
variable {α:Type}{d:Kd α}{e base:Nat}{ok:Nat→Prop}{v:Value}{xs:List α}{w w0 w1 W:World}
theorem ru(h:ae (d.R e w0 base ok v xs))(hw:d.R e w0 base ok v xs→d.R e w base ok v xs:=by intro h;(with_reducible repeat (first|apply Kd.bQ|apply Kd.dh|apply Kd.cR));exact h):d.R e w base ok v xs:=hw h.1
theorem qr(h:ae (d.R e w0 base ok v xs))(hb:Below W.heap.size W w1)(hw:d.R e w0 base ok v xs→d.R e W base ok v xs:=by intro h;exact ru ⟨h⟩):ae (d.R e w1 base ok v xs):=⟨Kd.mX (hw h.1) hb⟩
theorem qe{g:Nat}(h:ae (d.R e w0 base ok v xs))(hg:g=W.heap.size)(hb:Below W.heap.size W w1)(hw:d.R e w0 base ok v xs→d.R e W base ok v xs:=by intro h;exact ru ⟨h⟩):ae (d.R e w1 base (fun k=>ok k∧k≠g) v xs):=⟨Kd.mX (Kd.Pb (hw h.1) g (Nat.le_of_eq hg.symm)) hb⟩
theorem rt{g t:Nat}{C:Array Value}(h:ae (d.R e w0 base ok v xs))(hb:ae (w0.heap[g]? =some (.cells C t (0,0))))(hw:d.R e w0 base (fun k=>ok k∧k≠g) v xs→d.R e w base (fun k=>ok k∧k≠g) v xs:=by intro h;(repeat (with_reducible first|apply Kd.bQ|apply Kd.dh|apply Kd.cR|refine Kd.fu ?_ (fun _ hk=>hk.2) _));exact h)(ht:∀q,q∈e::d.E→q≠t:=by decide):d.R e w base ok v xs:=Kd.bJ (hw (Kd.dc h.1 hb.1 ht)) (fun _ hk=>hk.1)
theorem Rb(h:ae (d.R e w base ok v xs))(hb:Below w.heap.size w W):ae (d.R e W base ok v xs):=⟨Kd.mX h.1 hb⟩
theorem Nb(h:ae (d.N e w base ok v xs))(hb:Below w.heap.size w W):ae (d.N e W base ok v xs):=⟨Kd.zt h.1 hb⟩
theorem Cb{A:Option Addr}{n:Nat}(h:ae (d.C w A n xs))(hb:Below w.heap.size w W):ae (d.C W A n xs):=⟨Kd.aj h.1 hb⟩
theorem rT{g t:Nat}{C:Array Value}(h:ae (d.R e w0 base ok v xs))(hb:ae (w0.heap[g]? =some (.cells C t (0,0))))(hw:d.R e w0 base (fun k=>ok k∧k≠g) v xs→d.R e w base (fun k=>ok k∧k≠g) v xs:=by intro h;(repeat (with_reducible first|apply Kd.bQ|apply Kd.dh|apply Kd.cR|refine Kd.fu ?_ (fun _ hk=>hk.2) _));exact h)(ht:∀q,q∈e::d.E→q≠t:=by decide):d.R e w base (fun _=>True) v xs:=Kd.bJ (hw (Kd.dc h.1 hb.1 ht)) (fun _ _=>trivial)
theorem cu{A:Option Addr}{n:Nat}(h:ae (d.C w0 A n xs))(hw:d.C w0 A n xs→d.C w A n xs:=by intro h;(repeat (first|exact(Kd.aj h bl)|(with_reducible refine Kd.cD ?_ _)|(with_reducible refine Kd.cE ?_ _)|(with_reducible refine Kd.cY ?_)))):d.C w A n xs:=hw h.1
end
section
variable {P:Program}{ops:Array Oper}{rest:List Oper}{o:Oper}{a:Act}{Q:Exit→Act→World→Prop}{W:World}
theorem gd(N:Tmp)(h:wpList P ops Q (o::rest) a W)(hN:o.dst=some N:=by exact rfl):wpList P ops Q (o::rest) a W:=h
theorem gc(f:FuncId)(h:wpList P ops Q (o::rest) a W){Zw:Array Operand}{ts:Array TypeId}(ho:o.op= .call {callee:= .value (.func f),args:=Zw,argTypes:=ts}:=by exact rfl):wpList P ops Q (o::rest) a W:=h
theorem bx(t:TypeId)(C:Array Value)(h:∀g,g=W.heap.size→∀w1,w1.heap[g]? =some (.cells C t (0,0))→Below W.heap.size W w1→wpList P ops Q rest (a.put o.dst (.pointer (some ⟨g,0,none⟩))) w1)
 (iI:(execOp a.eval o).run P W= .ok (.value (.pointer (some ⟨W.heap.size,0,none⟩))) (W.alloc (.cells C t (0,0))):=by first|(go_simp;done)|(go_simp;rfl)) (um:o.guard=none:=by exact rfl) {N:Tmp} (hd:o.dst=some N:=by exact rfl):wpList P ops Q (o::rest) a W:=xw um hd iI h
theorem gl(n:Tmp){f:FuncId}{fn:Func}(hf:P.funcs[f]? =some fn)(args:Array Value)(h:Calls P f args W fun e w'=>∃v,e= .returned v∧wpList P ops Q rest (a.put (some n) v) w')(hd:o.dst=some n:=by exact rfl)(hg:o.guard=none:=by exact rfl)(vm:(fn.name== "runtime.NumGoroutine")=false:=by kernel_rfl)(hb:fn.body.isSome=true:=by exact rfl)
 {Zw:Array Operand} {ts:Array TypeId} (Y5:o.op= .call {callee:= .value (.func f),args:=Zw,argTypes:=ts}:=by exact rfl) (ym:Zw.map a.eval=args:=by((try simp only[List.map_toArray,List.map_cons,List.map_nil]);first|done|rfl|(simp only[List.length_drop,List.length_take];rfl))):wpList P ops Q (o::rest) a W:=Dk (some n) hd hg hf vm hb args Y5 ym h
end
section
variable {w w0 w1 W V:World}{g g' t:Nat}{o:Obj}{C C':Array Value}{B:Nat}
theorem kb(h:ae (w.heap[g]? =some o))(hb:Below w.heap.size w W):ae (W.heap[g]? =some o):=⟨fe h.1 hb⟩
theorem sb(h:ae (Below w0.heap.size w0 w))(hb:Below w.heap.size w W):ae (Below w0.heap.size w0 W):=⟨bR h.1 hb⟩
theorem kd(h:ae (w.heap[g]? =some o)):ae (w.drew.heap[g]? =some o):=h
theorem sd(h:ae (Below B w W)):ae (Below B w W.drew):=⟨dF h.1⟩
theorem lt(h:ae (w.heap[g]? =some o)):ae (g<w.heap.size):=⟨aN h.1⟩
theorem ow{p q:Prop}(h:ae p)(hq:p→q:=by intro h;omega):q:=hq h.1
section
variable {v0 v1 v2 v3 v4 v5 v6 v7 v8 c0 c1 c2 c3 c4 c5 c6 c7 c8:Value}{i:Nat}
theorem fA(hV:V=w.setCell ⟨g',i,none⟩ v0)(h:ae (w.heap[g]? =some (.cells C t (0,0))))(hn:g≠g':=by omega):ae (V.heap[g]? =some (.cells C t (0,0))):=⟨hV▸aJ h.1 hn _⟩
theorem pA(hV:V=w.setCell ⟨g,i,none⟩ v0)(h:ae (w.heap[g]? =some (.cells C t (0,0))))(e:C.setIfInBounds i v0=C':=by first|(simp only[List.setIfInBounds_toArray,List.set_cons_zero,List.set_cons_succ];done)|(simp only[List.setIfInBounds_toArray,List.set_cons_zero,List.set_cons_succ];rfl)):ae (V.heap[g]? =some (.cells C' t (0,0))):=⟨hV▸aQ h.1 i _ e⟩
theorem bA(hV:V=w.setCell ⟨g,i,none⟩ v0)(h:ae (Below w0.heap.size w0 w))(hn:w0.heap.size≤g:=by omega):ae (Below w0.heap.size w0 V):=⟨hV▸aH h.1 hn⟩
theorem fB(hV:V=(w.setCell ⟨g',0,none⟩ v0).setCell ⟨g',1,none⟩ v1)(h:ae (w.heap[g]? =some (.cells C t (0,0))))(hn:g≠g':=by omega):ae (V.heap[g]? =some (.cells C t (0,0))):=fA hV (fA rfl h hn) hn
theorem bB(hV:V=(w.setCell ⟨g,0,none⟩ v0).setCell ⟨g,1,none⟩ v1)(h:ae (Below w0.heap.size w0 w))(hn:w0.heap.size≤g:=by omega):ae (Below w0.heap.size w0 V):=bA hV (bA rfl h hn) hn
theorem fC(hV:V=((w.setCell ⟨g',0,none⟩ v0).setCell ⟨g',1,none⟩ v1).setCell ⟨g',2,none⟩ v2)(h:ae (w.heap[g]? =some (.cells C t (0,0))))(hn:g≠g':=by omega):ae (V.heap[g]? =some (.cells C t (0,0))):=fA hV (fB rfl h hn) hn
theorem pC(hV:V=((w.setCell ⟨g,0,none⟩ v0).setCell ⟨g,1,none⟩ v1).setCell ⟨g,2,none⟩ v2)(h:ae (w.heap[g]? =some (.cells #[c0,c1,c2] t (0,0)))):ae (V.heap[g]? =some (.cells #[v0,v1,v2] t (0,0))):=pA hV (pA rfl (pA rfl h))
theorem bC(hV:V=((w.setCell ⟨g,0,none⟩ v0).setCell ⟨g,1,none⟩ v1).setCell ⟨g,2,none⟩ v2)(h:ae (Below w0.heap.size w0 w))(hn:w0.heap.size≤g:=by omega):ae (Below w0.heap.size w0 V):=bA hV (bB rfl h hn) hn
end
end
section
variable {P:Program}{md:Region.Mode}{ops:Array Oper}{Q:Exit→Act→World→Prop}{S:World→Prop}{ds:List Nat}{oi oj ok:Oper}{v:Value}{fuel:Nat}{l l' li lj lk:Array Bool}{a a':Act}{w w1:World}{K:Act→World→Prop}
theorem kD(i n:Nat)(h:∀K:Act→World→Prop,Shut (∀a' w',S w'→(S w'→aZ P md ops Q S ds fuel l' a' w')→K a' w')→if Region.wanted oi (yielded ops a.tmps)=true then Oper.wp P oi a w K Q else K (a.put (some n) undef) w)(hi:ops[i]? =some oi:=by rfl)(hN:oi.dst=some n:=by rfl)(hl:l.setIfInBounds i true=l':=by(simp only[List.setIfInBounds_toArray,List.set_cons_zero,List.set_cons_succ];rfl))(hc:sR md ops l l' i=true:=by kernel_rfl)(hd:i∉ds:=by decide):aZ P md ops Q S ds (fuel+1) l a w:=qB l' hi hN hc hd h
theorem Ls(i:Nat)(h:∀K:Act→World→Prop,Shut (∀a' w',aZ P md ops Q S ds fuel l' a' w'→K a' w')→if Region.wanted oi (yielded ops a.tmps)=true then Oper.wp P oi a w K Q else K (a.put none undef) w)(hi:ops[i]? =some oi:=by rfl)(hN:oi.dst=none:=by rfl)(hl:l.setIfInBounds i true=l':=by(simp only[List.setIfInBounds_toArray,List.set_cons_zero,List.set_cons_succ];rfl))(hc:sR md ops l l' i=true:=by kernel_rfl)(hd:i∈ds:=by decide):aZ P md ops Q S ds (fuel+1) l a w:=qL l' hi hN hc hd h
theorem Jb(i n j m:Nat)(h1:∀K:Act→World→Prop,Shut (∀a' w',S w'→(S w'→aZ P md ops Q S ds fuel li a' w')→K a' w')→if Region.wanted oi (yielded ops a.tmps)=true then Oper.wp P oi a w K Q else K (a.put (some n) undef) w)
 (h2:∀K:Act→World→Prop,Shut (∀a' w',S w'→(S w'→aZ P md ops Q S ds fuel lj a' w')→K a' w')→if Region.wanted oj (yielded ops a.tmps)=true then Oper.wp P oj a w K Q else K (a.put (some m) undef) w)
 (hi:ops[i]? =some oi:=by rfl) (hj:ops[j]? =some oj:=by rfl) (hN:oi.dst=some n:=by rfl) (hM:oj.dst=some m:=by rfl) (hli:l.setIfInBounds i true=li:=by(simp only[List.setIfInBounds_toArray,List.set_cons_zero,List.set_cons_succ];rfl)) (hlj:l.setIfInBounds j true=lj:=by(simp only[List.setIfInBounds_toArray,List.set_cons_zero,List.set_cons_succ];rfl))
 (hc:(Region.ready md ops l==[i,j]&&l.setIfInBounds i true==li&&l.setIfInBounds j true==lj)=true:=by kernel_rfl) (YY:i∉ds:=by decide) (Tq:j∉ds:=by decide):aZ P md ops Q S ds (fuel+1) l a w:=akx li lj hi hj hN hM hc YY Tq h1 h2
theorem th_(i n j m k r:Nat)(h1:∀K:Act→World→Prop,Shut (∀a' w',S w'→(S w'→aZ P md ops Q S ds fuel li a' w')→K a' w')→if Region.wanted oi (yielded ops a.tmps)=true then Oper.wp P oi a w K Q else K (a.put (some n) undef) w)
 (h2:∀K:Act→World→Prop,Shut (∀a' w',S w'→(S w'→aZ P md ops Q S ds fuel lj a' w')→K a' w')→if Region.wanted oj (yielded ops a.tmps)=true then Oper.wp P oj a w K Q else K (a.put (some m) undef) w)
 (h3:∀K:Act→World→Prop,Shut (∀a' w',S w'→(S w'→aZ P md ops Q S ds fuel lk a' w')→K a' w')→if Region.wanted ok (yielded ops a.tmps)=true then Oper.wp P ok a w K Q else K (a.put (some r) undef) w)
 (hi:ops[i]? =some oi:=by rfl) (hj:ops[j]? =some oj:=by rfl) (hk:ops[k]? =some ok:=by rfl) (hN:oi.dst=some n:=by rfl) (hM:oj.dst=some m:=by rfl) (hR:ok.dst=some r:=by rfl) (hli:l.setIfInBounds i true=li:=by(simp only[List.setIfInBounds_toArray,List.set_cons_zero,List.set_cons_succ];rfl)) (hlj:l.setIfInBounds j true=lj:=by(simp only[List.setIfInBounds_toArray,List.set_cons_zero,List.set_cons_succ];rfl)) (hlk:l.setIfInBounds k true=lk:=by(simp only[List.setIfInBounds_toArray,List.set_cons_zero,List.set_cons_succ];rfl))
 (hc:(Region.ready md ops l==[i,j,k]&&l.setIfInBounds i true==li&&l.setIfInBounds j true==lj&&l.setIfInBounds k true==lk)=true:=by kernel_rfl) (YY:i∉ds:=by decide) (Tq:j∉ds:=by decide) (hdk:k∉ds:=by decide):aZ P md ops Q S ds (fuel+1) l a w:=YZ li lj lk hi hj hk hN hM hR hc YY Tq hdk h1 h2 h3
theorem xC(h:K a w1)(hw:Region.wanted oi (yielded ops a.tmps)=true:=by rfl)(hN:oi.dst=none:=by rfl)(iI:(execOp a.eval oi).run P w= .ok .skip w1:=by(go_simp;rfl)):if Region.wanted oi (yielded ops a.tmps)=true then Oper.wp P oi a w K Q else K (a.put none undef) w:=Wv hw hN iI h
theorem ft(hK:Shut (∀a' w',S w'→(S w'→aZ P md ops Q S ds fuel l a' w')→K a' w'))(h:S w→aZ P md ops Q S ds fuel l a' w)(hS:S w:=by repeat' (first|refine And.intro ?_ ?_|(apply ce;assumption;rfl)))(ha:a=a':=by(show Act.put _ (some _) _=_;simp only[Act.put,List.setIfInBounds_toArray,List.set_cons_zero,List.set_cons_succ,bp,bF];rfl)):K a w:=by subst ha;exact hK.out _ _ hS h
theorem pN{f:FuncId}{N:Option Tmp}{fn:Func}{Zw:Array Operand}{ts:Array TypeId}(hf:P.funcs[f]? =some fn)(args:Array Value)(h:Calls P f args w fun e w'=>∃v,e= .returned v∧K (a.put N v) w')(hN:oi.dst=N:=by rfl)(vm:(fn.name== "runtime.NumGoroutine")=false:=by kernel_rfl)(hb:fn.body.isSome=true:=by rfl)(hw:Region.wanted oi (yielded ops a.tmps)=true:=by rfl)(Y5:oi.op= .call {callee:= .value (.func f),args:=Zw,argTypes:=ts}:=by rfl)(ym:Zw.map a.eval=args:=by((try simp only[List.map_toArray,List.map_cons,List.map_nil]);first|done|rfl|(simp only[List.length_drop,List.length_take];rfl))):if Region.wanted oi (yielded ops a.tmps)=true then Oper.wp P oi a w K Q else K (a.put N undef) w:=ac7 hf vm hb args hw hN Y5 ym h
end
theorem nQ{P:Program}{ops:Array Oper}{Q:Exit→Act→World→Prop}{oi:Oper}{v:Value}{a:Act}{w w1:World}{K:Act→World→Prop}{N:Option Tmp}(h:K (a.put N v) w1)(hN:oi.dst=N:=by rfl)(hw:Region.wanted oi (yielded ops a.tmps)=true:=by rfl)(iI:(execOp a.eval oi).run P w= .ok (.value v) w1:=by(go_simp;constructor;rfl;rfl)):if Region.wanted oi (yielded ops a.tmps)=true then Oper.wp P oi a w K Q else K (a.put N undef) w:=Dl hw hN iI h
end Go.Proofs.YtmhdcgmfbjcndaaGreatDoor.P
