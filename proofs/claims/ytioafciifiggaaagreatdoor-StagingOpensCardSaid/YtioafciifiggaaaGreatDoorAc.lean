/- Staging. No condition. -/
import Derived.Test.YtioafciifiggaaaGreatDoorL0
import Derived.Test.YtioafciifiggaaaGreatDoorAb
import Derived.Laws.BitsLemmas
set_option linter.all false
namespace Go.Proofs.YtioafciifiggaaaGreatDoor
open Go.Proofs Go.AL
set_option maxRecDepth 100000
set_option maxHeartbeats 1000000
attribute [local irreducible] cB AW aX cZ dK hold
def vT(p:List Int):List Int:=(p.length:Int)::(p++List.replicate (31-p.length) 0)
theorem Jt{p:List Int}(hp:p.length<=31):(vT p).length=32:=by unfold vT;simp;omega
theorem Ju{l:List Int}(h:l.length=32):∃d0 d1 d2 d3 d4 d5 d6 d7 d8 d9 d10 d11 d12 d13 d14 d15 d16 d17 d18 d19 d20 d21 d22 d23 d24 d25 d26 d27 d28 d29 d30 d31,l=[d0,d1,d2,d3,d4,d5,d6,d7,d8,d9,d10,d11,d12,d13,d14,d15,d16,d17,d18,d19,d20,d21,d22,d23,d24,d25,d26,d27,d28,d29,d30,d31]:=by
 match l,h with|[d0,d1,d2,d3,d4,d5,d6,d7,d8,d9,d10,d11,d12,d13,d14,d15,d16,d17,d18,d19,d20,d21,d22,d23,d24,d25,d26,d27,d28,d29,d30,d31],_=>exact⟨d0,d1,d2,d3,d4,d5,d6,d7,d8,d9,d10,d11,d12,d13,d14,d15,d16,d17,d18,d19,d20,d21,d22,d23,d24,d25,d26,d27,d28,d29,d30,d31,rfl⟩
theorem aa3{p:List Int}(hp:p.length<=31):[uV (p.length:Int)]::(aA aH (p.take (p.length.min 31))++(aA aH ((p.length:Int)::List.replicate 31 0)).drop (1+p.length.min 31))=aA aH (vT p):=by
 have h1:p.length.min 31=p.length:=Nat.min_eq_left hp;rw[h1,l4,Nat.add_comm,ZE,KR,List.drop_replicate];simp only[vT,aA,jW,yO,aH]
def gb(n:Int)(i:Nat):Int:=IntKind.u8.wrap (n.fdiv (2 ^ min (8*i) 64))
def BY(n:Int)(D:List Int)(k:Nat):aY:=((gb n 0,gb n 1,gb n 2,gb n 3),(D.getD (4*k) 0,D.getD (4*k+1) 0,D.getD (4*k+2) 0,D.getD (4*k+3) 0))
def D8(n:Int)(p:List Int):List aY:=[BY n (vT p) 0,BY n (vT p) 1,BY n (vT p) 2,BY n (vT p) 3,BY n (vT p) 4,BY n (vT p) 5,BY n (vT p) 6,BY n (vT p) 7]
theorem aa4(n:Int)(p:List Int)(hp:p.length<=31):PC 163 [zV n,.snap (aA aH p)] (.agg [zV n,.snap (aA aH p),.snap (aA aQ (D8 n p))]):=by
 refine aT Tryz.func163 Tryz.ntmps163 (by simp only[go_sem]) ?_
 have hd:=aa3 hp;have hz:aQ aO=[uV 0,uV 0,uV 0,uV 0,uV 0,uV 0,uV 0,uV 0]:=by rfl
 refine aD ?_;refine nS Tryz.func143 Tryz.ntmps143 ?_;refine aD ?_;obtain⟨d0,d1,d2,d3,d4,d5,d6,d7,d8,d9,d10,d11,d12,d13,d14,d15,d16,d17,d18,d19,d20,d21,d22,d23,d24,d25,d26,d27,d28,d29,d30,d31,hD⟩:=Ju (Jt hp);rw[hD]at hd;refine tI (env:=[(25,true,.fn (.func 195) [] [.ptr 7 0 0,.ptr 8 0 0]),(6,true,.ptr 5 0 0),(4,true,.ptr 1 0 0),(2,true,.ptr 0 0 0)]) (H:=⟨9,dH [(0,some (.cells 3 1 [[zV n]] true false)),(1,some (.cells 261 3 [[.c (.int .i64 0),.c (.slice none 0 0),.c (.slice none 0 0)]] true false)),(2,some (.cells 5 1 [[uV d0],[uV d1],[uV d2],[uV d3],[uV d4],[uV d5],[uV d6],[uV d7],[uV d8],[uV d9],[uV d10],[uV d11],[uV d12],[uV d13],[uV d14],[uV d15],[uV d16],[uV d17],[uV d18],[uV d19],[uV d20],[uV d21],[uV d22],[uV d23],[uV d24],[uV d25],[uV d26],[uV d27],[uV d28],[uV d29],[uV d30],[uV d31]] true true)),(5,some (.cells 261 3 [[zV n,.snap (aA aH p),.c (.slice none 0 0)]] true false)),(7,some (.cells 74 1 [[.own 2 0 32]] true false)),(8,some (.cells 3 1 [[.c (.int .i64 4)]] true false))]⟩) ?_ ?_
 ·refine rV (by rfl) (rV (by rfl) (rV (by rfl) (rV (by rfl) (holds_nil (cA 9) (sO (by rfl) (sO (by rfl) (sO ?_ (sO (by rfl) (sO (by rfl) (sO (by rfl) zY))))))))))
  simp only[Jv,xB];exact congrArg (fun r=>some (aI.cells 5 1 r true true)) hd
 have hP:aA aQ (D8 n p)=[[.c (.int .u8 (IntKind.u8.wrap (n.fdiv (2 ^ min 0 64)))),.c (.int .u8 (IntKind.u8.wrap (n.fdiv (2 ^ min 8 64)))),.c (.int .u8 (IntKind.u8.wrap (n.fdiv (2 ^ min 16 64)))),.c (.int .u8 (IntKind.u8.wrap (n.fdiv (2 ^ min 24 64)))),uV d0,uV d1,uV d2,uV d3],[.c (.int .u8 (IntKind.u8.wrap (n.fdiv (2 ^ min 0 64)))),.c (.int .u8 (IntKind.u8.wrap (n.fdiv (2 ^ min 8 64)))),.c (.int .u8 (IntKind.u8.wrap (n.fdiv (2 ^ min 16 64)))),.c (.int .u8 (IntKind.u8.wrap (n.fdiv (2 ^ min 24 64)))),uV d4,uV d5,uV d6,uV d7],[.c (.int .u8 (IntKind.u8.wrap (n.fdiv (2 ^ min 0 64)))),.c (.int .u8 (IntKind.u8.wrap (n.fdiv (2 ^ min 8 64)))),.c (.int .u8 (IntKind.u8.wrap (n.fdiv (2 ^ min 16 64)))),.c (.int .u8 (IntKind.u8.wrap (n.fdiv (2 ^ min 24 64)))),uV d8,uV d9,uV d10,uV d11],[.c (.int .u8 (IntKind.u8.wrap (n.fdiv (2 ^ min 0 64)))),.c (.int .u8 (IntKind.u8.wrap (n.fdiv (2 ^ min 8 64)))),.c (.int .u8 (IntKind.u8.wrap (n.fdiv (2 ^ min 16 64)))),.c (.int .u8 (IntKind.u8.wrap (n.fdiv (2 ^ min 24 64)))),uV d12,uV d13,uV d14,uV d15],[.c (.int .u8 (IntKind.u8.wrap (n.fdiv (2 ^ min 0 64)))),.c (.int .u8 (IntKind.u8.wrap (n.fdiv (2 ^ min 8 64)))),.c (.int .u8 (IntKind.u8.wrap (n.fdiv (2 ^ min 16 64)))),.c (.int .u8 (IntKind.u8.wrap (n.fdiv (2 ^ min 24 64)))),uV d16,uV d17,uV d18,uV d19],[.c (.int .u8 (IntKind.u8.wrap (n.fdiv (2 ^ min 0 64)))),.c (.int .u8 (IntKind.u8.wrap (n.fdiv (2 ^ min 8 64)))),.c (.int .u8 (IntKind.u8.wrap (n.fdiv (2 ^ min 16 64)))),.c (.int .u8 (IntKind.u8.wrap (n.fdiv (2 ^ min 24 64)))),uV d20,uV d21,uV d22,uV d23],[.c (.int .u8 (IntKind.u8.wrap (n.fdiv (2 ^ min 0 64)))),.c (.int .u8 (IntKind.u8.wrap (n.fdiv (2 ^ min 8 64)))),.c (.int .u8 (IntKind.u8.wrap (n.fdiv (2 ^ min 16 64)))),.c (.int .u8 (IntKind.u8.wrap (n.fdiv (2 ^ min 24 64)))),uV d24,uV d25,uV d26,uV d27],[.c (.int .u8 (IntKind.u8.wrap (n.fdiv (2 ^ min 0 64)))),.c (.int .u8 (IntKind.u8.wrap (n.fdiv (2 ^ min 8 64)))),.c (.int .u8 (IntKind.u8.wrap (n.fdiv (2 ^ min 16 64)))),.c (.int .u8 (IntKind.u8.wrap (n.fdiv (2 ^ min 24 64)))),uV d28,uV d29,uV d30,uV d31]]:=by
  unfold D8 BY gb;rw[hD];rfl
 clear hd hD;refine L9 Tryz.func195 Tryz.ntmps195 (fun R A B hR hA hB=> ?_)
 refine aD ?_;refine eP 9 ?_;refine eQ ?_;refine aD ?_;refine eP 5 ?_;refine eQ ?_;refine aD ?_;refine eP 5 ?_;refine eQ ?_;refine aD ?_;refine eP 5 ?_;refine eQ ?_;refine aD ?_;refine eP 5 ?_;refine eQ ?_;refine aD ?_;refine eP 5 ?_;refine eQ ?_;refine aD ?_;refine eP 5 ?_;refine eQ ?_;refine aD ?_;refine eP 5 ?_
 refine eQ ?_;refine aD ?_;refine eP 5 ?_;refine eQ ?_;refine aD ?_;exact aB
def aV(x:Int):Prop:=0<=x/\x<256
def LA(s:aY):Prop:=aV s.1.1/\aV s.1.2.1/\aV s.1.2.2.1/\aV s.1.2.2.2
def cL(s:aY):Int:=s.1.1+256*s.1.2.1+65536*s.1.2.2.1+16777216*s.1.2.2.2
theorem BZ{i:Nat}{x y:Int}(h0:0<=x)(hx:x % 2 ^ i=0)(h1:x<4294967296)(h2:0<=y)(h3:y<2 ^ i)(h4:y<4294967296):bits .or .i64 x y=x+y:=
 bits_join .i64 32 (by decide) (fun n a b=>IntWalk.i64_in _ (by have:(2:Int) ^ 32=4294967296:=by decide
                                                                omega)) i x y h0 hx (by have:(2:Int) ^ 32=4294967296:=by decide
                                                                                        omega) h2 h3 (by have:(2:Int) ^ 32=4294967296:=by decide
                                                                                                         omega)
theorem HM(k:IntKind)(x y:Int):bits .or k x y=bits .or k y x:=by
 simp only[bits,BitVec.or_comm]
theorem ZF{i:Nat}{x y:Int}(h0:0<=x)(hx:x % 2 ^ i=0)(h1:x<4294967296)(h2:0<=y)(h3:y<2 ^ i)(h4:y<4294967296):bits .or .u32 y x=y+x:=by
 have e:(2:Int) ^ 32=4294967296:=by decide
 rw[HM,bits_join .u32 32 (by decide) (fun n a b=>by rw[IntKind.wrap_u32];omega) i x y h0 hx (by omega) h2 h3 (by omega),Int.add_comm]
theorem Jw(s:aY)(h:LA s):PC 162 [.agg (aQ s)] (zV (cL s)):=by
 refine aT Tryz.func162 Tryz.ntmps162 (.c _) ?_;obtain⟨⟨a,b,c,d⟩,x1,x2,x3,x4⟩:=s;have hs:aQ ((a,b,c,d),x1,x2,x3,x4)=[uV a,uV b,uV c,uV d,uV x1,uV x2,uV x3,uV x4]:=rfl;obtain⟨⟨a0,a1⟩,⟨b0,b1⟩,⟨c0,c1⟩,⟨d0,d1⟩⟩:=h;simp only[]at a0 a1 b0 b1 c0 c1 d0 d1;have p8:(2:Int) ^ 8=256:=by decide
 have pm:(2:Int) ^ min 8 64=256:=by decide
 have e1:bits .or .i64 (0*2 ^ min 8 64) d=d:=by
  rw[BZ (i:=8) (by omega) (by omega) (by omega) d0 (by omega) (by omega)];omega
 have e2:IntKind.i64.wrap (d*2 ^ min 8 64)=d*256:=by rw[pm];exact IntWalk.i64_in _ (by omega)
 have e3:bits .or .i64 (d*256) c=d*256+c:=BZ (i:=8) (by omega) (by omega) (by omega) c0 (by omega) (by omega)
 have e4:IntKind.i64.wrap ((d*256+c)*2 ^ min 8 64)=(d*256+c)*256:=by rw[pm];exact IntWalk.i64_in _ (by omega)
 have e5:bits .or .i64 ((d*256+c)*256) b=(d*256+c)*256+b:=BZ (i:=8) (by omega) (by omega) (by omega) b0 (by omega) (by omega)
 have e6:IntKind.i64.wrap (((d*256+c)*256+b)*2 ^ min 8 64)=((d*256+c)*256+b)*256:=by rw[pm];exact IntWalk.i64_in _ (by omega)
 have e7:bits .or .i64 (((d*256+c)*256+b)*256) a=cL ((a,b,c,d),x1,x2,x3,x4):=by
  rw[BZ (i:=8) (by omega) (by omega) (by omega) a0 (by omega) (by omega)]
  simp only[cL];omega
 clear p8 pm;refine aD ?_;refine eP 5 ?_;refine eQ ?_;refine aD ?_;exact aB
theorem ZG(s:aY)(h:LA s):PC 120 [.agg (aQ s)] (.c (.int .u32 (cL s))):=by
 refine aT Tryz.func120 Tryz.ntmps120 (.c _) ?_;obtain⟨⟨a,b,c,d⟩,x1,x2,x3,x4⟩:=s;have hs:aQ ((a,b,c,d),x1,x2,x3,x4)=[uV a,uV b,uV c,uV d,uV x1,uV x2,uV x3,uV x4]:=rfl;obtain⟨⟨a0,a1⟩,⟨b0,b1⟩,⟨c0,c1⟩,⟨d0,d1⟩⟩:=h;simp only[]at a0 a1 b0 b1 c0 c1 d0 d1;have p8:(2:Int) ^ 8=256:=by decide
 have Jx:(2:Int) ^ 16=65536:=by decide
 have Jy:(2:Int) ^ 24=16777216:=by decide
 have m8:(2:Int) ^ min 8 32=256:=by decide
 have UO:(2:Int) ^ min 16 32=65536:=by decide
 have UP:(2:Int) ^ min 24 32=16777216:=by decide
 have wa:IntKind.u32.wrap a=a:=by rw[IntKind.wrap_u32];omega
 have wb:IntKind.u32.wrap b=b:=by rw[IntKind.wrap_u32];omega
 have wc:IntKind.u32.wrap c=c:=by rw[IntKind.wrap_u32];omega
 have wd:IntKind.u32.wrap d=d:=by rw[IntKind.wrap_u32];omega
 have e1:IntKind.u32.wrap (b*2 ^ min 8 32)=b*256:=by rw[m8,IntKind.wrap_u32];omega
 have e2:IntKind.u32.wrap (c*2 ^ min 16 32)=c*65536:=by rw[UO,IntKind.wrap_u32];omega
 have e3:IntKind.u32.wrap (d*2 ^ min 24 32)=d*16777216:=by rw[UP,IntKind.wrap_u32];omega
 have e4:bits .or .u32 a (b*256)=a+b*256:=ZF (i:=8) (by omega) (by omega) (by omega) a0 (by omega) (by omega)
 have e5:bits .or .u32 (a+b*256) (c*65536)=a+b*256+c*65536:=ZF (i:=16) (by omega) (by omega) (by omega) (by omega) (by omega) (by omega)
 have e6:bits .or .u32 (a+b*256+c*65536) (d*16777216)=cL ((a,b,c,d),x1,x2,x3,x4):=by
  rw[ZF (i:=24) (by omega) (by omega) (by omega) (by omega) (by omega) (by omega)]
  simp only[cL];omega
 clear p8 Jx Jy m8 UO UP;refine aD ?_;exact aB
def cp(p:List Int)(k:Nat):List Int:=(p.length:Int)::(p.take k++List.replicate (31-k) 0)
theorem aa5{p:List Int}{k:Nat}(h:k<p.length)(hp:p.length<=31):(cp p k).set (k+1) (p.getD k 0)=cp p (k+1):=by
 unfold cp;have e:(p.take k).length=k:=by rw[eD];omega
 rw[Ip,Xz _ _ (by omega),e,tG,P7 h,show 31-k=(31-(k+1))+1 by omega,KS,YU]
 simp only[lC,fU h,qR,kA,P8]
theorem aa6{p:List Int}{k:Nat}(h:k<=p.length)(hp:p.length<=31):(cp p k).length=32:=by
 unfold cp;simp;omega
theorem aa7{p:List Int}:cp p p.length=vT p:=by unfold cp vT;rw[l4]
def qU:Nat->Nat->AV
 |0,_=> .c (.slice none 0 0)
 |k+1,id=> .own id 0 (k+1)
def p7:Nat->Nat->List (List AV)->List (Nat×Option aI)
 |0,_,_=> []
 |k+1,id,l=> [(id,some (.cells 124 8 (l.take (k+1)) true true))]
theorem aa8(n:Int)(p:List Int)(hp:p.length<=31):PC 167 [.c (.int .u32 n),.snap (aA aH p)] (.snap (aA aQ (D8 n p))):=by
 refine aT Tryz.func167 Tryz.ntmps167 (iJ _) ?_;have hg:=gB p;have hw:IntKind.u8.wrap (p.length:Int)=p.length:=by rw[IntKind.wrap_u8];omega
 have w0:IntKind.u64.wrap 0=0:=by rfl
 have w8:IntKind.u64.wrap 8=8:=by rfl
 have w16:IntKind.u64.wrap 16=16:=by rfl
 have w24:IntKind.u64.wrap 24=24:=by rfl
 have hz:aQ aO=[uV 0,uV 0,uV 0,uV 0,uV 0,uV 0,uV 0,uV 0]:=by rfl
 have ZH:aA aH (cp p 0)=[[uV (p.length:Int)],[uV 0],[uV 0],[uV 0],[uV 0],[uV 0],[uV 0],[uV 0],[uV 0],[uV 0],[uV 0],[uV 0],[uV 0],[uV 0],[uV 0],[uV 0],[uV 0],[uV 0],[uV 0],[uV 0],[uV 0],[uV 0],[uV 0],[uV 0],[uV 0],[uV 0],[uV 0],[uV 0],[uV 0],[uV 0],[uV 0],[uV 0]]:=by rfl
 refine aD ?_;refine dP (α:=Unit) p.length (fun k _=> [(6,true,zV k),(5,true,.own 0 0 32),(4,true,.c (.slice none 0 0)),(0,true,.c (.int .u32 n)),(1,true,.snap (aA aH p))]) (fun k _=> [(0,some (.cells 5 1 (aA aH (cp p k)) true true))]) (fun _ m _=>2<=m) ⟨2,(),cA _,?_⟩ (fun k m _ hk hm=> ?_) (fun m _ hm=> ?_)
 ·rw[ZH]
  exact aN
 ·have h1:=aa5 hk hp
  have h2:=aa6 (Iq hk) hp;have h3:=gB (cp p k);refine aD ?_;exact⟨m+1,(),by omega,aN⟩
 ·rw[aa7]
  obtain⟨d0,d1,d2,d3,d4,d5,d6,d7,d8,d9,d10,d11,d12,d13,d14,d15,d16,d17,d18,d19,d20,d21,d22,d23,d24,d25,d26,d27,d28,d29,d30,d31,hD⟩:=Ju (Jt hp)
  have hP:aA aQ (D8 n p)=[[.c (.int .u8 (IntKind.u8.wrap (n.fdiv (2 ^ min 0 32)))),.c (.int .u8 (IntKind.u8.wrap (n.fdiv (2 ^ min 8 32)))),.c (.int .u8 (IntKind.u8.wrap (n.fdiv (2 ^ min 16 32)))),.c (.int .u8 (IntKind.u8.wrap (n.fdiv (2 ^ min 24 32)))),uV d0,uV d1,uV d2,uV d3],[.c (.int .u8 (IntKind.u8.wrap (n.fdiv (2 ^ min 0 32)))),.c (.int .u8 (IntKind.u8.wrap (n.fdiv (2 ^ min 8 32)))),.c (.int .u8 (IntKind.u8.wrap (n.fdiv (2 ^ min 16 32)))),.c (.int .u8 (IntKind.u8.wrap (n.fdiv (2 ^ min 24 32)))),uV d4,uV d5,uV d6,uV d7],[.c (.int .u8 (IntKind.u8.wrap (n.fdiv (2 ^ min 0 32)))),.c (.int .u8 (IntKind.u8.wrap (n.fdiv (2 ^ min 8 32)))),.c (.int .u8 (IntKind.u8.wrap (n.fdiv (2 ^ min 16 32)))),.c (.int .u8 (IntKind.u8.wrap (n.fdiv (2 ^ min 24 32)))),uV d8,uV d9,uV d10,uV d11],[.c (.int .u8 (IntKind.u8.wrap (n.fdiv (2 ^ min 0 32)))),.c (.int .u8 (IntKind.u8.wrap (n.fdiv (2 ^ min 8 32)))),.c (.int .u8 (IntKind.u8.wrap (n.fdiv (2 ^ min 16 32)))),.c (.int .u8 (IntKind.u8.wrap (n.fdiv (2 ^ min 24 32)))),uV d12,uV d13,uV d14,uV d15],[.c (.int .u8 (IntKind.u8.wrap (n.fdiv (2 ^ min 0 32)))),.c (.int .u8 (IntKind.u8.wrap (n.fdiv (2 ^ min 8 32)))),.c (.int .u8 (IntKind.u8.wrap (n.fdiv (2 ^ min 16 32)))),.c (.int .u8 (IntKind.u8.wrap (n.fdiv (2 ^ min 24 32)))),uV d16,uV d17,uV d18,uV d19],[.c (.int .u8 (IntKind.u8.wrap (n.fdiv (2 ^ min 0 32)))),.c (.int .u8 (IntKind.u8.wrap (n.fdiv (2 ^ min 8 32)))),.c (.int .u8 (IntKind.u8.wrap (n.fdiv (2 ^ min 16 32)))),.c (.int .u8 (IntKind.u8.wrap (n.fdiv (2 ^ min 24 32)))),uV d20,uV d21,uV d22,uV d23],[.c (.int .u8 (IntKind.u8.wrap (n.fdiv (2 ^ min 0 32)))),.c (.int .u8 (IntKind.u8.wrap (n.fdiv (2 ^ min 8 32)))),.c (.int .u8 (IntKind.u8.wrap (n.fdiv (2 ^ min 16 32)))),.c (.int .u8 (IntKind.u8.wrap (n.fdiv (2 ^ min 24 32)))),uV d24,uV d25,uV d26,uV d27],[.c (.int .u8 (IntKind.u8.wrap (n.fdiv (2 ^ min 0 32)))),.c (.int .u8 (IntKind.u8.wrap (n.fdiv (2 ^ min 8 32)))),.c (.int .u8 (IntKind.u8.wrap (n.fdiv (2 ^ min 16 32)))),.c (.int .u8 (IntKind.u8.wrap (n.fdiv (2 ^ min 24 32)))),uV d28,uV d29,uV d30,uV d31]]:=by
   unfold D8 BY gb;rw[hD];rfl
  rw[hD];have hE:aA aH [d0,d1,d2,d3,d4,d5,d6,d7,d8,d9,d10,d11,d12,d13,d14,d15,d16,d17,d18,d19,d20,d21,d22,d23,d24,d25,d26,d27,d28,d29,d30,d31]=[[uV d0],[uV d1],[uV d2],[uV d3],[uV d4],[uV d5],[uV d6],[uV d7],[uV d8],[uV d9],[uV d10],[uV d11],[uV d12],[uV d13],[uV d14],[uV d15],[uV d16],[uV d17],[uV d18],[uV d19],[uV d20],[uV d21],[uV d22],[uV d23],[uV d24],[uV d25],[uV d26],[uV d27],[uV d28],[uV d29],[uV d30],[uV d31]]:=rfl
  rw[hE];clear hE hD ZH;refine aD ?_;refine dP (α:=Nat) 8 (fun k id=> [(8,true,.c (.int .i64 (4*(k:Int)))),(7,true,qU k id),(5,true,.own 0 0 32),(0,true,.c (.int .u32 n)),(1,true,.snap (aA aH p))]) (fun k id=>(0,some (.cells 5 1 [[uV d0],[uV d1],[uV d2],[uV d3],[uV d4],[uV d5],[uV d6],[uV d7],[uV d8],[uV d9],[uV d10],[uV d11],[uV d12],[uV d13],[uV d14],[uV d15],[uV d16],[uV d17],[uV d18],[uV d19],[uV d20],[uV d21],[uV d22],[uV d23],[uV d24],[uV d25],[uV d26],[uV d27],[uV d28],[uV d29],[uV d30],[uV d31]] true true))::p7 k id (aA aQ (D8 n p))) (fun k m id=>2<=m/\0<id/\id<m) ⟨m,1,?_,?_⟩ (fun k m id hk hm=> ?_) (fun m id hm=> ?_)
  ·exact⟨hm,by omega,by omega⟩
  ·simp only[qU,p7]
   exact aN
  ·rw[hP]
   obtain⟨nZ,nD,C0⟩:=hm
   match k,hk with
   |0,_=>
    simp only[qU,p7,List.take];refine aD ?_;refine eP 5 ?_;refine eQ ?_;refine aD ?_;refine⟨m+11,m+10,⟨by omega,by omega,by omega⟩,?_⟩
    simp only[qU,p7,List.take];exact aN
   |1,_=>
    simp only[qU,p7,List.take];refine aD ?_;refine eP 5 ?_;refine eQ ?_;refine aD ?_;refine⟨m+11,m+10,⟨by omega,by omega,by omega⟩,?_⟩
    simp only[qU,p7,List.take];exact aN
   |2,_=>
    simp only[qU,p7,List.take];refine aD ?_;refine eP 5 ?_;refine eQ ?_;refine aD ?_;refine⟨m+11,m+10,⟨by omega,by omega,by omega⟩,?_⟩
    simp only[qU,p7,List.take];exact aN
   |3,_=>
    simp only[qU,p7,List.take];refine aD ?_;refine eP 5 ?_;refine eQ ?_;refine aD ?_;refine⟨m+11,m+10,⟨by omega,by omega,by omega⟩,?_⟩
    simp only[qU,p7,List.take];exact aN
   |4,_=>
    simp only[qU,p7,List.take];refine aD ?_;refine eP 5 ?_;refine eQ ?_;refine aD ?_;refine⟨m+11,m+10,⟨by omega,by omega,by omega⟩,?_⟩
    simp only[qU,p7,List.take];exact aN
   |5,_=>
    simp only[qU,p7,List.take];refine aD ?_;refine eP 5 ?_;refine eQ ?_;refine aD ?_;refine⟨m+11,m+10,⟨by omega,by omega,by omega⟩,?_⟩
    simp only[qU,p7,List.take];exact aN
   |6,_=>
    simp only[qU,p7,List.take];refine aD ?_;refine eP 5 ?_;refine eQ ?_;refine aD ?_;refine⟨m+11,m+10,⟨by omega,by omega,by omega⟩,?_⟩
    simp only[qU,p7,List.take];exact aN
   |7,_=>
    simp only[qU,p7,List.take];refine aD ?_;refine eP 5 ?_;refine eQ ?_;refine aD ?_;refine⟨m+11,m+10,⟨by omega,by omega,by omega⟩,?_⟩
    simp only[qU,p7,List.take];exact aN
  ·simp only[qU,p7]
   rw[hP];obtain⟨nZ,nD,C0⟩:=hm;refine aD ?_;exact aB
end Go.Proofs.YtioafciifiggaaaGreatDoor
