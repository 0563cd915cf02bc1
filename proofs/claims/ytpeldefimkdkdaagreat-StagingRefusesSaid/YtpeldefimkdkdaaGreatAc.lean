/- Staging: contracts of its functions (Ac). No condition but those named. -/
import Derived.Test.YtpeldefimkdkdaaGreatAb
import Derived.Laws.BitsLemmas
set_option linter.unusedVariables false
set_option linter.unusedSimpArgs false
namespace Go.Proofs.YtpeldefimkdkdaaGreat
open Go.Proofs Go.AL
set_option maxRecDepth 100000
set_option maxHeartbeats 1000000
attribute [local irreducible] endA AW aops thenA blockA hold
def dat(p:List Int):List Int:=(p.length:Int)::(p++List.replicate (31-p.length) 0)
theorem dat_len{p:List Int}(hp:p.length≤31):(dat p).length=32:=by unfold dat;simp;omega
theorem split32{l:List Int}(h:l.length=32):∃d0 d1 d2 d3 d4 d5 d6 d7 d8 d9 d10 d11 d12 d13 d14 d15 d16 d17 d18 d19 d20 d21 d22 d23 d24 d25 d26 d27 d28 d29 d30 d31,l=[d0,d1,d2,d3,d4,d5,d6,d7,d8,d9,d10,d11,d12,d13,d14,d15,d16,d17,d18,d19,d20,d21,d22,d23,d24,d25,d26,d27,d28,d29,d30,d31]:=by
 match l,h with|[d0,d1,d2,d3,d4,d5,d6,d7,d8,d9,d10,d11,d12,d13,d14,d15,d16,d17,d18,d19,d20,d21,d22,d23,d24,d25,d26,d27,d28,d29,d30,d31],_=>exact⟨d0,d1,d2,d3,d4,d5,d6,d7,d8,d9,d10,d11,d12,d13,d14,d15,d16,d17,d18,d19,d20,d21,d22,d23,d24,d25,d26,d27,d28,d29,d30,d31,rfl⟩
theorem dat_rows{p:List Int}(hp:p.length≤31):[uV (p.length:Int)]::(encL byteRow (p.take (p.length.min 31))++(encL byteRow ((p.length:Int)::List.replicate 31 0)).drop (1+p.length.min 31))=encL byteRow (dat p):=by
 have h1:p.length.min 31=p.length:=Nat.min_eq_left hp;rw[h1,List.take_length,Nat.add_comm,encL_drop,List.drop_succ_cons,List.drop_replicate];simp only[dat,encL,List.map_cons,List.map_append,byteRow]
def gb(n:Int)(i:Nat):Int:=IntKind.u8.wrap (n.fdiv (2 ^ min (8*i) 64))
def secOf(n:Int)(D:List Int)(k:Nat):Sec:=((gb n 0,gb n 1,gb n 2,gb n 3),(D.getD (4*k) 0,D.getD (4*k+1) 0,D.getD (4*k+2) 0,D.getD (4*k+3) 0))
def putS(n:Int)(p:List Int):List Sec:=[secOf n (dat p) 0,secOf n (dat p) 1,secOf n (dat p) 2,secOf n (dat p) 3,secOf n (dat p) 4,secOf n (dat p) 5,secOf n (dat p) 6,secOf n (dat p) 7]
theorem put_p(n:Int)(p:List Int)(hp:p.length≤31):PC 153 [zV n,.snap (encL byteRow p)] (.agg [zV n,.snap (encL byteRow p),.snap (encL encSec (putS n p))]):=by
 refine pstart Tryz.func153 Tryz.ntmps153 (by simp only[go_sem]) ?_
 have hd:=dat_rows hp;have hz:encSec zSec=[uV 0,uV 0,uV 0,uV 0,uV 0,uV 0,uV 0,uV 0]:=by rfl
 refine zgo ?_;refine zin Tryz.func112 Tryz.ntmps112 ?_;refine zgo ?_;obtain⟨d0,d1,d2,d3,d4,d5,d6,d7,d8,d9,d10,d11,d12,d13,d14,d15,d16,d17,d18,d19,d20,d21,d22,d23,d24,d25,d26,d27,d28,d29,d30,d31,hD⟩:=split32 (dat_len hp);rw[hD]at hd;refine aw_less (env:=[(25,true,.fn (.func 151) [] [.ptr 7 0 0,.ptr 8 0 0]),(6,true,.ptr 5 0 0),(4,true,.ptr 1 0 0),(2,true,.ptr 0 0 0)]) (H:=⟨9,tabG [(0,some (.cells 3 1 [[zV n]] true false)),(1,some (.cells 230 3 [[.c (.int .i64 0),.c (.slice none 0 0),.c (.slice none 0 0)]] true false)),(2,some (.cells 5 1 [[uV d0],[uV d1],[uV d2],[uV d3],[uV d4],[uV d5],[uV d6],[uV d7],[uV d8],[uV d9],[uV d10],[uV d11],[uV d12],[uV d13],[uV d14],[uV d15],[uV d16],[uV d17],[uV d18],[uV d19],[uV d20],[uV d21],[uV d22],[uV d23],[uV d24],[uV d25],[uV d26],[uV d27],[uV d28],[uV d29],[uV d30],[uV d31]] true true)),(5,some (.cells 230 3 [[zV n,.snap (encL byteRow p),.c (.slice none 0 0)]] true false)),(7,some (.cells 46 1 [[.own 2 0 32]] true false)),(8,some (.cells 3 1 [[.c (.int .i64 4)]] true false))]⟩) ?_ ?_
 ·refine holds_cons (by rfl) (holds_cons (by rfl) (holds_cons (by rfl) (holds_cons (by rfl) (holds_nil (Nat.le_refl 9) (sub_cons (by rfl) (sub_cons (by rfl) (sub_cons ?_ (sub_cons (by rfl) (sub_cons (by rfl) (sub_cons (by rfl) sub_nil))))))))))
  simp only[tabG_at,lookT];exact congrArg (fun r=>some (Blk.cells 5 1 r true true)) hd
 have hP:encL encSec (putS n p)=[[.c (.int .u8 (IntKind.u8.wrap (n.fdiv (2 ^ min 0 64)))),.c (.int .u8 (IntKind.u8.wrap (n.fdiv (2 ^ min 8 64)))),.c (.int .u8 (IntKind.u8.wrap (n.fdiv (2 ^ min 16 64)))),.c (.int .u8 (IntKind.u8.wrap (n.fdiv (2 ^ min 24 64)))),uV d0,uV d1,uV d2,uV d3],[.c (.int .u8 (IntKind.u8.wrap (n.fdiv (2 ^ min 0 64)))),.c (.int .u8 (IntKind.u8.wrap (n.fdiv (2 ^ min 8 64)))),.c (.int .u8 (IntKind.u8.wrap (n.fdiv (2 ^ min 16 64)))),.c (.int .u8 (IntKind.u8.wrap (n.fdiv (2 ^ min 24 64)))),uV d4,uV d5,uV d6,uV d7],[.c (.int .u8 (IntKind.u8.wrap (n.fdiv (2 ^ min 0 64)))),.c (.int .u8 (IntKind.u8.wrap (n.fdiv (2 ^ min 8 64)))),.c (.int .u8 (IntKind.u8.wrap (n.fdiv (2 ^ min 16 64)))),.c (.int .u8 (IntKind.u8.wrap (n.fdiv (2 ^ min 24 64)))),uV d8,uV d9,uV d10,uV d11],[.c (.int .u8 (IntKind.u8.wrap (n.fdiv (2 ^ min 0 64)))),.c (.int .u8 (IntKind.u8.wrap (n.fdiv (2 ^ min 8 64)))),.c (.int .u8 (IntKind.u8.wrap (n.fdiv (2 ^ min 16 64)))),.c (.int .u8 (IntKind.u8.wrap (n.fdiv (2 ^ min 24 64)))),uV d12,uV d13,uV d14,uV d15],[.c (.int .u8 (IntKind.u8.wrap (n.fdiv (2 ^ min 0 64)))),.c (.int .u8 (IntKind.u8.wrap (n.fdiv (2 ^ min 8 64)))),.c (.int .u8 (IntKind.u8.wrap (n.fdiv (2 ^ min 16 64)))),.c (.int .u8 (IntKind.u8.wrap (n.fdiv (2 ^ min 24 64)))),uV d16,uV d17,uV d18,uV d19],[.c (.int .u8 (IntKind.u8.wrap (n.fdiv (2 ^ min 0 64)))),.c (.int .u8 (IntKind.u8.wrap (n.fdiv (2 ^ min 8 64)))),.c (.int .u8 (IntKind.u8.wrap (n.fdiv (2 ^ min 16 64)))),.c (.int .u8 (IntKind.u8.wrap (n.fdiv (2 ^ min 24 64)))),uV d20,uV d21,uV d22,uV d23],[.c (.int .u8 (IntKind.u8.wrap (n.fdiv (2 ^ min 0 64)))),.c (.int .u8 (IntKind.u8.wrap (n.fdiv (2 ^ min 8 64)))),.c (.int .u8 (IntKind.u8.wrap (n.fdiv (2 ^ min 16 64)))),.c (.int .u8 (IntKind.u8.wrap (n.fdiv (2 ^ min 24 64)))),uV d24,uV d25,uV d26,uV d27],[.c (.int .u8 (IntKind.u8.wrap (n.fdiv (2 ^ min 0 64)))),.c (.int .u8 (IntKind.u8.wrap (n.fdiv (2 ^ min 8 64)))),.c (.int .u8 (IntKind.u8.wrap (n.fdiv (2 ^ min 16 64)))),.c (.int .u8 (IntKind.u8.wrap (n.fdiv (2 ^ min 24 64)))),uV d28,uV d29,uV d30,uV d31]]:=by
  unfold putS secOf gb;rw[hD];rfl
 clear hd hD;refine zrange Tryz.func151 Tryz.ntmps151 (fun R A B hR hA hB=> ?_)
 refine zgo ?_;refine w_rounds 9 ?_;refine w_round ?_;refine zgo ?_;refine w_rounds 5 ?_;refine w_round ?_;refine zgo ?_;refine w_rounds 5 ?_;refine w_round ?_;refine zgo ?_;refine w_rounds 5 ?_;refine w_round ?_;refine zgo ?_;refine w_rounds 5 ?_;refine w_round ?_;refine zgo ?_;refine w_rounds 5 ?_;refine w_round ?_;refine zgo ?_;refine w_rounds 5 ?_;refine w_round ?_;refine zgo ?_;refine w_rounds 5 ?_
 refine w_round ?_;refine zgo ?_;refine w_rounds 5 ?_;refine w_round ?_;refine zgo ?_;exact zfin
end Go.Proofs.YtpeldefimkdkdaaGreat
namespace Go.Proofs.YtpeldefimkdkdaaGreat
open Go.Proofs Go.AL
set_option maxRecDepth 100000
set_option maxHeartbeats 1000000
attribute [local irreducible] endA AW aops thenA blockA hold
def ByteOK(x:Int):Prop:=0≤x∧x<256
end Go.Proofs.YtpeldefimkdkdaaGreat
namespace Go.Proofs.YtpeldefimkdkdaaGreat
open Go.Proofs Go.AL
set_option maxRecDepth 100000
set_option maxHeartbeats 1000000
attribute [local irreducible] endA AW aops thenA blockA hold
def cp(p:List Int)(k:Nat):List Int:=(p.length:Int)::(p.take k++List.replicate (31-k) 0)
def outT:Nat→Nat→List (List AV)→List (Nat×Option Blk)
 |0,_,_=> []
 |k+1,id,l=> [(id,some (.cells 132 8 (l.take (k+1)) true true))]
end Go.Proofs.YtpeldefimkdkdaaGreat
namespace Go.Proofs.YtpeldefimkdkdaaGreat
open Go.Proofs Go.AL
set_option maxRecDepth 100000
set_option maxHeartbeats 1000000
attribute [local irreducible] endA AW aops thenA blockA hold
theorem gS(l:List Sec)(k:Nat)(h:k<l.length):(encL encSec l)[k]? =some (encSec (l.getD k zSec)):=encL_get zSec h
def d4(s:Sec):List Int:=[s.2.1,s.2.2.1,s.2.2.2.1,s.2.2.2.2]
@[go_sem] theorem sec_tail(s:Sec):List.map (fun x=> [x]) (List.take 4 (List.drop 4 (encSec s)))=encL byteRow (d4 s):=rfl
@[go_sem] theorem d4_len(s:Sec):(d4 s).length=4:=rfl
@[go_sem] theorem d4_ne(s:Sec):(d4 s).isEmpty=false:=rfl
end Go.Proofs.YtpeldefimkdkdaaGreat
namespace Go.Proofs.YtpeldefimkdkdaaGreat
open Go.Proofs Go.AL
set_option maxRecDepth 100000
set_option maxHeartbeats 1000000
attribute [local irreducible] endA AW aops thenA blockA hold
def opRow(o:Int×Int×List Sec):List AV:=[zV o.1,zV o.2.1,.snap (encL encSec o.2.2)]
@[go_sem] theorem sec_expoD(G:Nat→Option Blk)(k:Nat)(s:Sec):(encSec s).map (expoD G k)=encSec s:=by
  cases k<;>simp[encSec,expoD]
theorem op_noId(o:Int×Int×List Sec):∀x∈opRow o,NoId x:=by
 intro x hx;simp only[opRow,List.mem_cons,List.not_mem_nil,or_false]at hx;rcases hx with rfl|rfl|rfl
 ·exact .c _
 ·exact .c _
 ·exact encL_noId _
instance :RowEnc opRow 3:=⟨fun _=>rfl,fun _=>rfl,op_noId⟩
def zs16:List Sec:=List.replicate 16 zSec
def sbFmt(a:Int)(p:List Int):List (Int×Int×List Sec)×Int:=
 if a<0∨4080<a then([],2)
 else if 31<p.length then([],5)
 else([(0,a,zs16),(1,0,[]),(0,a,putS 1 p),(1,0,[])],0)
theorem sbFormat_p(a:Int)(p:List Int)(hp:p.length≤100000):PC 116 [zV a,.snap (encL byteRow p)] (.tup [.snap (encL opRow (sbFmt a p).1),zV (sbFmt a p).2]):=by
 refine pstartD Tryz.func116 Tryz.ntmps116 (by simp only[go_sem]) ?_
 unfold sbFmt;by_cases g1:a<0
 ·refine zgo ?_
  exact zfin
 by_cases g2:4080<a
 ·refine zgo ?_
  exact zfin
 have g3:¬(a<0∨4080<a):=by omega
 rw[if_neg g3];clear g3;by_cases g4:31<p.length
 ·have g5:(31:Int)<p.length:=by omega
  refine zgo ?_;exact zfin
 have g5:¬(31:Int)<p.length:=by omega
 have c1:=put_p 1 p (by omega)
 rw[if_neg g4];unfold zs16;refine zgo ?_;exact zfin
end Go.Proofs.YtpeldefimkdkdaaGreat
namespace Go.Proofs.YtpeldefimkdkdaaGreat
open Go.Proofs Go.AL
set_option maxRecDepth 100000
set_option maxHeartbeats 1000000
attribute [local irreducible] endA AW aops thenA blockA hold
theorem wkr_refl(xs:List (List AV)):Wkr xs xs:=⟨rfl,fun k a b h1 h2=>by rw[h1]at h2;injection h2 with h2;subst h2;exact wks_refl a⟩
theorem zfin2{A:Prop}(w:A:=by(simp(maxSteps:=2000000) (disch:=omega) only[go_sem,noId_c,noId_agg,noId_tup,noId_snap,false_implies,implies_true, *];(repeat (first|exact .refl _|exact .nil|exact wks_nil|refine wks_cons ?_ ?_|refine wk_tup ?_|refine wk_agg ?_|refine wk_snap ?_|exact wkr_nil|exact wkr_refl _|refine wkr_cons ?_ ?_)))):A:=w
@[go_sem] theorem op_expoD(G:Nat→Option Blk)(k:Nat)(F:List (Int×Int×List Sec)):(encL opRow F).map (fun row=>row.map (expoD G k))=encL opRow F:=by
  unfold encL;rw[List.map_map];refine List.map_congr_left fun o _=> ?_
  cases k<;>simp[opRow,expoD]
theorem sbFmt_len(a:Int)(p:List Int):(sbFmt a p).1.length≤4:=by
 unfold sbFmt;split
 ·simp
 ·split
  ·simp
  ·simp
end Go.Proofs.YtpeldefimkdkdaaGreat
namespace Go.Proofs.YtpeldefimkdkdaaGreat
open Go.Proofs Go.AL
set_option maxRecDepth 100000
set_option maxHeartbeats 1000000
attribute [local irreducible] endA AW aops thenA blockA hold
theorem cloneB_e(a:Option Addr)(cap:Nat):PC 94 [.c (.slice a 0 cap)] (.snap (encL byteRow [])):=by
 refine pstart Tryz.func94 Tryz.ntmps94 (encL_noId _) ?_;cases a with
 |none=>
  refine zgo ?_;simp only[encL_nil];exact zfin
 |some a=>
  refine zgo ?_;simp only[encL_nil];exact zfin
theorem cloneB_p(l:List Int)(hl:l.length≤1000000):PC 94 [.snap (encL byteRow l)] (.snap (encL byteRow l)):=by
 by_cases h:l=[]
 ·subst h
  exact PCall.nil (pre:=[]) (post:=[]) cloneB_e
 ·refine pstart Tryz.func94 Tryz.ntmps94 (encL_noId l) ?_
  have h1:=isEmpty_f h;refine zgo ?_;exact zfin
end Go.Proofs.YtpeldefimkdkdaaGreat
namespace Go.Proofs.YtpeldefimkdkdaaGreat
open Go.Proofs Go.AL
set_option maxRecDepth 100000
set_option maxHeartbeats 1000000
attribute [local irreducible] endA AW aops thenA blockA hold
theorem and127{x:Int}(h0:0≤x)(h1:x<256):bits .and .u8 x 127=x % 128:=bits_mask .u8 8 (by decide) wraps_u8 7 (by decide) x h0 h1
theorem and128{x:Int}(h0:0≤x)(h1:x<256):bits .and .u8 x 128=(if 128≤x then 128 else 0):=by
 have key:∀i:Fin 256,bits .and .u8 ((i.val:Nat):Int) 128=(if 128≤i.val then 128 else 0):=by decide
 have:=key ⟨x.toNat,by omega⟩
 simp only at this;rw[show((x.toNat:Nat):Int)=x by omega]at this
 rw[this];by_cases h:128≤x
 ·rw[if_pos h,if_pos (by omega)]
 ·rw[if_neg h,if_neg (by omega)]
def numG:Nat→List Int→Nat→Int→Int×Nat×Int
 |0,_,_,_=>(0,0,3)
 |f+1,src,i,n=>
  if i<src.length then
   if 128≤src.getD i 0 then numG f src (i+1) (n+src.getD i 0 % 128*2 ^ (7*i))
   else if(src.getD i 0=0∧0<i)∨9007199254740991<n+src.getD i 0 % 128*2 ^ (7*i)then(0,0,3)
   else(n+src.getD i 0 % 128*2 ^ (7*i),i+1,0)
  else(0,0,10)
theorem numG_succ(f:Nat)(src:List Int)(i:Nat)(n:Int):numG (f+1) src i n=if i<src.length then if 128≤src.getD i 0 then numG f src (i+1) (n+src.getD i 0 % 128*2 ^ (7*i))else if(src.getD i 0=0∧0<i)∨9007199254740991<n+src.getD i 0 % 128*2 ^ (7*i)then(0,0,3)else(n+src.getD i 0 % 128*2 ^ (7*i),i+1,0)else(0,0,10):=rfl
theorem numG_zero(src:List Int)(i:Nat)(n:Int):numG 0 src i n=(0,0,3):=rfl
theorem pow7(k:Nat):(2:Int) ^ (7*(k+1))=128*2 ^ (7*k):=by
 rw[Nat.mul_add,Int.pow_add];omega
theorem pow7_pos(k:Nat):(0:Int)<2 ^ (7*k):=Int.pow_pos (by decide)
theorem pow7_le{k:Nat}(h:k≤8):(2:Int) ^ (7*k)≤2 ^ 56:=by
 obtain⟨j,hj⟩:=Nat.exists_eq_add_of_le h;have e:(2:Int) ^ 56=2 ^ (7*k)*2 ^ (7*j):=by rw[←Int.pow_add];congr 1;omega
 rw[e];have h1:=pow7_pos j;have h2:=pow7_pos k;have:=Int.mul_le_mul_of_nonneg_left (show(1:Int)≤2 ^ (7*j)by omega) (show(0:Int)≤2 ^ (7*k)by omega)
 omega
theorem step7{k:Nat}{n b:Int}(hk:k<8)(h0:0≤n)(h1:n<2 ^ (7*k)):
  IntKind.i64.wrap (b % 128*2 ^ (7*k))=b % 128*2 ^ (7*k)∧bits .or .i64 n (b % 128*2 ^ (7*k))=n+b % 128*2 ^ (7*k)∧0≤n+b % 128*2 ^ (7*k)∧n+b % 128*2 ^ (7*k)<2 ^ (7*(k+1)):=by
 have e56:(2:Int) ^ 56=72057594037927936:=by decide
 have h2:=pow7_pos k;have h3:=pow7 k;have h4:=pow7_le (k:=k+1) (by omega)
 generalize hm:b % 128=m at*;have hm0:0≤m:=by omega
 have hm1:m≤127:=by omega
 have h5:m*2 ^ (7*k)≤127*2 ^ (7*k):=Int.mul_le_mul_of_nonneg_right hm1 (by omega)
 have h6:0≤m*2 ^ (7*k):=Int.mul_nonneg hm0 (by omega)
 refine⟨IntWalk.i64_in _ (by omega),?_,by omega,by omega⟩
 have e:=bits_join .i64 56 (by decide) (fun n a b=>IntWalk.i64_in _ (by omega)) (7*k) (m*2 ^ (7*k)) n h6 (by simp) (by omega) h0 h1 (by omega)
 simp only[bits,BitVec.or_comm]at e⊢;rw[e];omega
def intE(src:List Int):Int×List Int×Int:=
 if(numG 8 src 0 0).2.2=0 then((numG 8 src 0 0).1,src.drop (numG 8 src 0 0).2.1,0)else(0,[],(numG 8 src 0 0).2.2)
attribute [local irreducible] numG
theorem int_p(src:List Int)(hb:∀x∈src,ByteOK x)(hl:src.length≤100000):PC 125 [.snap (encL byteRow src)] (.tup [zV (intE src).1,.snap (encL byteRow (intE src).2.1),zV (intE src).2.2]):=by
 refine pstart Tryz.func125 Tryz.ntmps125 (by simp only[go_sem]) ?_
 refine zgo ?_;refine zin Tryz.func154 Tryz.ntmps154 ?_;refine zgo ?_;refine zin Tryz.func155 Tryz.ntmps155 ?_;refine zgo ?_;have hg:=gB src;unfold intE;generalize hF:numG 8 src 0 0=F;refine zfor (α:=Int) 8 (fun k n=> [(7,true,zV k),(4,true,zV n),(0,true,.ptr 0 0 0)]) (fun _ _=> [(0,some (.cells 267 1 [[.snap (encL byteRow src)]] true false))]) (fun k m n=>1≤m∧numG (8-k) src k n=F∧0≤n∧n<2 ^ (7*k)) ⟨1,0,⟨Nat.le_refl _,hF,by decide,by decide⟩,zholds⟩ (fun k m n hk hR=> ?_) (fun m n hR=> ?_)
 ·obtain⟨h1,h2,h3,h4⟩:=hR
  have w0:IntKind.i64.wrap (7*(k:Int))=((7*k:Nat):Int):=by rw[IntWalk.i64_in _ (by omega)];omega
  by_cases g1:k<src.length
  ·have hx:=hb _ (getD_mem' 0 g1)
   obtain⟨w1,w2,w3,w4⟩:=step7 (b:=src.getD k 0) hk h3 h4;have a1:=and127 hx.1 hx.2;have a2:=and128 hx.1 hx.2;obtain⟨f,hf⟩:∃f,8-k=f+1:=⟨7-k,by omega⟩
   have hf2:8-(k+1)=f:=by omega
   rw[hf]at h2;have wm:min (7*k) 64=7*k:=by omega
   have hgk:=hg k g1;clear hb hg hF;generalize hv:src.getD k 0=b at*;rw[numG_succ,if_pos g1,hv]at h2;generalize hp0:(2:Int) ^ (7*k)=p at*;have hp:(2:Int) ^ min (7*k) 64=p:=by rw[wm,hp0]
   clear wm h4;generalize hq:b % 128*p=q at*;have w5:Lat (n+q<2 ^ (7*(k+1))):=⟨w4⟩;clear w4;by_cases g2:128≤b
   ·rw[if_pos g2]at a2
    have h5:Lat (numG (8-(k+1)) src (k+1) (n+q)=F):=⟨by rw[hf2,←h2,if_pos g2]⟩
    clear h2 hf2 hf;refine zgo ?_;exact⟨m,_,⟨h1,h5.out,w3,w5.out⟩,zholds⟩
   ·rw[if_neg g2]at a2
    have h5:F=if(b=0∧0<k)∨9007199254740991<n+q then(0,0,3)else(n+q,k+1,0):=by
     rw[←h2,if_neg g2]
    clear h2 hf2 hf;by_cases g3:b=0∧0<k
    ·have h6:F=(0,0,3):=by rw[h5,if_pos (.inl g3)]
     obtain⟨g4,g5⟩:=g3;have g6:(0:Int)<k:=by omega
     rw[h6];clear h5 h6;have hb0:(b==(0:Int))=true:=by rw[g4];rfl
     clear g4;refine zgo ?_;exact zfin
    ·by_cases g4:9007199254740991<n+q
     ·have h6:F=(0,0,3):=by rw[h5,if_pos (.inr g4)]
      rw[h6];clear h5 h6;by_cases g5:b=0
      ·have g6:¬(0:Int)<k:=by omega
       clear g3;have hb0:(b==(0:Int))=true:=by rw[g5];rfl
       clear g5;refine zgo ?_;exact zfin
      ·clear g3
       refine zgo ?_;exact zfin
     ·have h6:F=(n+q,k+1,0):=by rw[h5,if_neg (by omega)]
      rw[h6];clear h5 h6;have c3:=cloneB_p (src.drop (k+1)) (by rw[List.length_drop];omega)
      have e3:(src.drop (k+1)).take (src.length-(k+1))=src.drop (k+1):=List.take_of_length_le (by rw[List.length_drop];omega)
      by_cases g5:b=0
      ·have g6:¬(0:Int)<k:=by omega
       clear g3;have hb0:(b==(0:Int))=true:=by rw[g5];rfl
       clear g5;refine zgo ?_;exact zfin
      ·clear g3
       refine zgo ?_;exact zfin
  ·refine zgo ?_
   have h9:F=(0,0,10):=by rw[←h2,show 8-k=(7-k)+1 by omega];rw[numG_succ,if_neg g1]
   rw[h9];exact zfin
 ·have h9:F=(0,0,3):=by rw[←hR.2.1,Nat.sub_self,numG_zero]
  refine zgo ?_;rw[h9];exact zfin
end Go.Proofs.YtpeldefimkdkdaaGreat
namespace Go.Proofs.YtpeldefimkdkdaaGreat
open Go.Proofs Go.AL
set_option maxRecDepth 100000
set_option maxHeartbeats 1000000
attribute [local irreducible] endA AW aops thenA blockA hold
attribute [local irreducible] numG
theorem rnum_p(src:List Int)(hb:∀x∈src,ByteOK x)(hl:src.length≤100000):PC 118 [.snap (encL byteRow src)] (.tup [zV (numG 8 src 0 0).1,zV ((numG 8 src 0 0).2.1:Nat),zV (numG 8 src 0 0).2.2]):=by
 refine pstart Tryz.func118 Tryz.ntmps118 (by simp only[go_sem]) ?_
 refine zgo ?_;have hg:=gB src;generalize hF:numG 8 src 0 0=F;refine zfor (α:=Int) 8 (fun k n=> [(7,true,zV k),(6,true,zV (2 ^ (7*k))),(5,true,zV n),(0,true,.snap (encL byteRow src))]) (fun _ _=> []) (fun k m n=>numG (8-k) src k n=F∧0≤n∧n<2 ^ (7*k)) ⟨0,0,⟨hF,by decide,by decide⟩,zholds⟩ (fun k m n hk hR=> ?_) (fun m n hR=> ?_)
 ·obtain⟨h2,h3,h4⟩:=hR
  by_cases g1:k<src.length
  ·have hx:=hb _ (getD_mem' 0 g1)
   obtain⟨w1,w2,w3,w4⟩:=step7 (b:=src.getD k 0) hk h3 h4;obtain⟨f,hf⟩:∃f,8-k=f+1:=⟨7-k,by omega⟩
   have hf2:8-(k+1)=f:=by omega
   rw[hf]at h2;have hgk:=hg k g1;obtain⟨hx1,hx2⟩:=hx;clear hb hg hF;generalize hv:src.getD k 0=b at*;rw[numG_succ,if_pos g1,hv]at h2;have hp1:=pow7 k;have hp2:=pow7_pos k;have hp3:=pow7_le (k:=k+1) (by omega)
   have e56:(2:Int) ^ 56=72057594037927936:=by decide
   rw[e56]at hp3;have w5:Lat (n+b % 128*2 ^ (7*k)<2 ^ (7*(k+1))):=⟨w4⟩;have wt:IntKind.i64.wrap (2 ^ (7*k)*128)=2 ^ (7*(k+1)):=by rw[IntWalk.i64_in _ (by omega)];omega
   have wr:b.tmod 128=b % 128:=Int.tmod_eq_emod_of_nonneg hx1;have wn:IntKind.i64.wrap (n+b % 128*2 ^ (7*k))=n+b % 128*2 ^ (7*k):=IntWalk.i64_in _ (by omega)
   clear hp1 hp3 e56 w2 w4;generalize (2:Int) ^ (7*(k+1))=p2 at*;generalize (2:Int) ^ (7*k)=p at*;clear h4 hp2;generalize hq:b % 128*p=q at*;by_cases g2:128≤b
   ·have h5:Lat (numG (8-(k+1)) src (k+1) (n+q)=F):=⟨by rw[hf2,←h2,if_pos g2]⟩
    clear h2 hf2 hf;have g3:¬b<128:=by omega
    refine zgo ?_;exact⟨m,_,⟨h5.out,w3,w5.out⟩,zholds⟩
   ·have h5:F=if(b=0∧0<k)∨9007199254740991<n+q then(0,0,3)else(n+q,k+1,0):=by
     rw[←h2,if_neg g2]
    clear h2 hf2 hf;have g9:b<128:=by omega
    by_cases g3:b=0∧0<k
    ·have h6:F=(0,0,3):=by rw[h5,if_pos (.inl g3)]
     obtain⟨g4,g5⟩:=g3;have g6:(0:Int)<k:=by omega
     rw[h6];clear h5 h6;have hb0:(b==(0:Int))=true:=by rw[g4];rfl
     clear g4;refine zgo ?_;exact zfin
    ·by_cases g4:9007199254740991<n+q
     ·have h6:F=(0,0,3):=by rw[h5,if_pos (.inr g4)]
      rw[h6];clear h5 h6;by_cases g5:b=0
      ·have g6:¬(0:Int)<k:=by omega
       clear g3;have hb0:(b==(0:Int))=true:=by rw[g5];rfl
       clear g5;refine zgo ?_;exact zfin
      ·clear g3
       refine zgo ?_;exact zfin
     ·have h6:F=(n+q,k+1,0):=by rw[h5,if_neg (by omega)]
      rw[h6];clear h5 h6;by_cases g5:b=0
      ·have g6:¬(0:Int)<k:=by omega
       clear g3;have hb0:(b==(0:Int))=true:=by rw[g5];rfl
       clear g5;refine zgo ?_;exact zfin
      ·clear g3
       refine zgo ?_;exact zfin
  ·have h9:F=(0,0,10):=by rw[←h2,show 8-k=(7-k)+1 by omega,numG_succ,if_neg g1]
   rw[h9];clear h9 h2;refine zgo ?_;exact zfin
 ·have h9:F=(0,0,3):=by rw[←hR.1,Nat.sub_self,numG_zero]
  rw[h9];clear h9 hR;refine zgo ?_;exact zfin
theorem rrest_p(src:List Int)(n:Nat)(hn:n≤src.length)(hl:src.length≤100000):PC 119 [.snap (encL byteRow src),zV n] (.snap (encL byteRow (src.drop n))):=by
 refine pstart Tryz.func119 Tryz.ntmps119 (by simp only[go_sem]) ?_
 have e3:(src.drop n).take (src.length-n)=src.drop n:=List.take_of_length_le (by rw[List.length_drop];omega)
 cases hE:src.drop n with
 |nil=>
  rw[hE]at e3;refine zgo ?_;exact zfin
 |cons x r=>
  have hl2:(x::r).length≤100000:=by rw[←hE,List.length_drop];omega
  simp only[List.length_cons]at hl2;rw[hE]at e3;refine zgo ?_;exact zfin
theorem numG_le:∀(f:Nat) (src:List Int) (i:Nat) (n:Int),(numG f src i n).2.2=0→(numG f src i n).2.1≤src.length
 |0,_,_,_,h=>by rw[numG_zero]at h;simp at h
 |f+1,src,i,n,h=>by
  rw[numG_succ]at h⊢;split at h
  ·rename_i h1
   rw[if_pos h1];split at h
   ·rename_i h2
    rw[if_pos h2];exact numG_le f src _ _ h
   ·rename_i h2
    rw[if_neg h2];split at h
    ·simp at h
    ·rename_i h3
     rw[if_neg h3];exact h1
  ·simp at h
theorem rint_p(src:List Int)(hb:∀x∈src,ByteOK x)(hl:src.length≤100000):PC 74 [.snap (encL byteRow src)] (.tup [zV (intE src).1,.snap (encL byteRow (intE src).2.1),zV (intE src).2.2]):=by
 refine pstart Tryz.func74 Tryz.ntmps74 (by simp only[go_sem]) ?_
 have c1:=rnum_p src hb hl;have h1:=numG_le 8 src 0 0;unfold intE;generalize numG 8 src 0 0=F at*;obtain⟨n,k,e⟩:=F;simp only[]at c1 h1⊢;by_cases g:e=0
 ·have c2:=rrest_p src k (h1 g) hl
  rw[if_pos g];clear h1 hb;refine zgo ?_;exact zfin
 ·rw[if_neg g]
  clear h1 hb;refine zgo ?_;exact zfin
theorem intE_ok{src:List Int}(hb:∀x∈src,ByteOK x):(∀x∈(intE src).2.1,ByteOK x)∧(intE src).2.1.length≤src.length:=by
 unfold intE;split
 ·exact⟨fun x hx=>hb x (List.mem_of_mem_drop hx),by simp⟩
 ·exact⟨fun x hx=>by simp at hx,by simp⟩
end Go.Proofs.YtpeldefimkdkdaaGreat
