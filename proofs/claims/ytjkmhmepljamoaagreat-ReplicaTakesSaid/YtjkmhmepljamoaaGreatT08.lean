/- A part of the proof of ReplicaTakes. -/
import Derived.Test.YtjkmhmepljamoaaGreatT04
import Derived.Test.YtjkmhmepljamoaaGreatT05
set_option linter.all false
set_option maxHeartbeats 16000000
set_option maxRecDepth 100000
section
namespace Go.Proofs.YtjkmhmepljamoaaGreat
open Go.Ab Tryz
structure InstD where
 op:Int
 a:Int
 b:Int
 c:Int
 imm:Int
 deriving DecidableEq
abbrev InstD.row(i:InstD):List V:=[.int .i64 i.op,.int .i64 i.a,.int .i64 i.b,.int .i64 i.c,.int .i32 i.imm]
def AI(op:Int):Int :=
 if 1<=op/\op<=13 then 2
 else if op=16\/op=23\/(32<=op/\op<=36)\/(40<=op/\op<=45)\/op=49 then 3
 else if 17<=op/\op<=19 then 4
 else if 20<=op/\op<=22 then 5
 else if op=24 then 6
 else if op=48 then 7
 else if op=58\/op=59 then 8
 else if op=60\/op=61 then 9
 else if op=56\/op=57\/(62<=op/\op<=64)then 1
 else 0
def Bz(f:Int):Int:=if f=3\/f=7 then -32768 else 0
def Ak(f:Int):Int:=if f=3\/f=7 then 32767 else if f=4\/f=6 then 65535 else if f=5 then 31 else if f=8 then 7 else if f=9 then 11 else 0
def uA(f:Int):Bool:=decide (2<=f)
def uB(f:Int):Bool:=decide (2<=f)&&decide (f<=5)
def uC(f:Int):Bool:=decide (f=2)
abbrev usV(f:Int):V:=.tup [.st [.bool (uA f),.bool (uB f),.bool (uC f),.int .i32 (Bz f),.int .i32 (Ak f)],.bool (decide (f≠0))]
set_option maxHeartbeats 16000000 in
theorem ZK(op:Int):AC prog 299 [.int .i64 op] (usV (AI op)):=by
 refine sX func299 ntmps299 ?_;intros;apply wr;refine AB rfl (fun h1=>?_) (fun h1=>?_)
 ·simp at h1;subst h1;refine au ?_;refine CU ?_;refine ar ?_;simp[AI,uA,uB,uC,Bz,Ak]
 simp at h1;refine au ?_;intros;apply wr;refine AB rfl (fun h2=>?_) (fun h2=>?_)
 ·simp at h2;subst h2;refine au ?_;refine CU ?_;refine ar ?_;simp[AI,uA,uB,uC,Bz,Ak]
 simp at h2;refine au ?_;intros;apply wr;refine AB rfl (fun h3=>?_) (fun h3=>?_)
 ·simp at h3;subst h3;refine au ?_;refine CU ?_;refine ar ?_;simp[AI,uA,uB,uC,Bz,Ak]
 simp at h3;refine au ?_;intros;apply wr;refine AB rfl (fun h4=>?_) (fun h4=>?_)
 ·simp at h4;subst h4;refine au ?_;refine CU ?_;refine ar ?_;simp[AI,uA,uB,uC,Bz,Ak]
 simp at h4;refine au ?_;intros;apply wr;refine AB rfl (fun h5=>?_) (fun h5=>?_)
 ·simp at h5;subst h5;refine au ?_;refine CU ?_;refine ar ?_;simp[AI,uA,uB,uC,Bz,Ak]
 simp at h5;refine au ?_;intros;apply wr;refine AB rfl (fun h6=>?_) (fun h6=>?_)
 ·simp at h6;subst h6;refine au ?_;refine CU ?_;refine ar ?_;simp[AI,uA,uB,uC,Bz,Ak]
 simp at h6;refine au ?_;intros;apply wr;refine AB rfl (fun h7=>?_) (fun h7=>?_)
 ·simp at h7;subst h7;refine au ?_;refine CU ?_;refine ar ?_;simp[AI,uA,uB,uC,Bz,Ak]
 simp at h7;refine au ?_;intros;apply wr;refine AB rfl (fun h8=>?_) (fun h8=>?_)
 ·simp at h8;subst h8;refine au ?_;refine CU ?_;refine ar ?_;simp[AI,uA,uB,uC,Bz,Ak]
 simp at h8;refine au ?_;intros;apply wr;refine AB rfl (fun h9=>?_) (fun h9=>?_)
 ·simp at h9;subst h9;refine au ?_;refine CU ?_;refine ar ?_;simp[AI,uA,uB,uC,Bz,Ak]
 simp at h9;refine au ?_;intros;apply wr;refine AB rfl (fun h10=>?_) (fun h10=>?_)
 ·simp at h10;subst h10;refine au ?_;refine CU ?_;refine ar ?_;simp[AI,uA,uB,uC,Bz,Ak]
 simp at h10;refine au ?_;intros;apply wr;refine AB rfl (fun h11=>?_) (fun h11=>?_)
 ·simp at h11;subst h11;refine au ?_;refine CU ?_;refine ar ?_;simp[AI,uA,uB,uC,Bz,Ak]
 simp at h11;refine au ?_;intros;apply wr;refine AB rfl (fun h12=>?_) (fun h12=>?_)
 ·simp at h12;subst h12;refine au ?_;refine CU ?_;refine ar ?_;simp[AI,uA,uB,uC,Bz,Ak]
 simp at h12;refine au ?_;intros;apply wr;refine AB rfl (fun h13=>?_) (fun h13=>?_)
 ·simp at h13;subst h13;refine au ?_;refine ar ?_;simp[AI,uA,uB,uC,Bz,Ak]
 simp at h13;refine au ?_;intros;apply wr;refine AB rfl (fun h14=>?_) (fun h14=>?_)
 ·simp at h14;subst h14;refine au ?_;refine CU ?_;refine ar ?_;simp[AI,uA,uB,uC,Bz,Ak]
 simp at h14;refine au ?_;intros;apply wr;refine AB rfl (fun h15=>?_) (fun h15=>?_)
 ·simp at h15;subst h15;refine au ?_;refine CU ?_;refine ar ?_;simp[AI,uA,uB,uC,Bz,Ak]
 simp at h15;refine au ?_;intros;apply wr;refine AB rfl (fun h16=>?_) (fun h16=>?_)
 ·simp at h16;subst h16;refine au ?_;refine CU ?_;refine ar ?_;simp[AI,uA,uB,uC,Bz,Ak]
 simp at h16;refine au ?_;intros;apply wr;refine AB rfl (fun h17=>?_) (fun h17=>?_)
 ·simp at h17;subst h17;refine au ?_;refine CU ?_;refine ar ?_;simp[AI,uA,uB,uC,Bz,Ak]
 simp at h17;refine au ?_;intros;apply wr;refine AB rfl (fun h18=>?_) (fun h18=>?_)
 ·simp at h18;subst h18;refine au ?_;refine CU ?_;refine ar ?_;simp[AI,uA,uB,uC,Bz,Ak]
 simp at h18;refine au ?_;intros;apply wr;refine AB rfl (fun h19=>?_) (fun h19=>?_)
 ·simp at h19;subst h19;refine au ?_;refine CU ?_;refine ar ?_;simp[AI,uA,uB,uC,Bz,Ak]
 simp at h19;refine au ?_;intros;apply wr;refine AB rfl (fun h20=>?_) (fun h20=>?_)
 ·simp at h20;subst h20;refine au ?_;refine CU ?_;refine ar ?_;simp[AI,uA,uB,uC,Bz,Ak]
 simp at h20;refine au ?_;intros;apply wr;refine AB rfl (fun h21=>?_) (fun h21=>?_)
 ·simp at h21;subst h21;refine au ?_;refine CU ?_;refine ar ?_;simp[AI,uA,uB,uC,Bz,Ak]
 simp at h21;refine au ?_;intros;apply wr;refine AB rfl (fun h22=>?_) (fun h22=>?_)
 ·simp at h22;subst h22;refine au ?_;refine CU ?_;refine ar ?_;simp[AI,uA,uB,uC,Bz,Ak]
 simp at h22;refine au ?_;intros;apply wr;refine AB rfl (fun h23=>?_) (fun h23=>?_)
 ·simp at h23;subst h23;refine au ?_;refine CU ?_;refine ar ?_;simp[AI,uA,uB,uC,Bz,Ak]
 simp at h23;refine au ?_;intros;apply wr;refine AB rfl (fun h24=>?_) (fun h24=>?_)
 ·simp at h24;subst h24;refine au ?_;refine CU ?_;refine ar ?_;simp[AI,uA,uB,uC,Bz,Ak]
 simp at h24;refine au ?_;intros;apply wr;refine AB rfl (fun h25=>?_) (fun h25=>?_)
 ·simp at h25;subst h25;refine au ?_;refine CU ?_;refine ar ?_;simp[AI,uA,uB,uC,Bz,Ak]
 simp at h25;refine au ?_;intros;apply wr;refine AB rfl (fun h26=>?_) (fun h26=>?_)
 ·simp at h26;subst h26;refine au ?_;refine CU ?_;refine ar ?_;simp[AI,uA,uB,uC,Bz,Ak]
 simp at h26;refine au ?_;intros;apply wr;refine AB rfl (fun h27=>?_) (fun h27=>?_)
 ·simp at h27;subst h27;refine au ?_;refine ar ?_;simp[AI,uA,uB,uC,Bz,Ak]
 simp at h27;refine au ?_;intros;apply wr;refine AB rfl (fun h28=>?_) (fun h28=>?_)
 ·simp at h28;subst h28;refine au ?_;refine CU ?_;refine ar ?_;simp[AI,uA,uB,uC,Bz,Ak]
 simp at h28;refine au ?_;intros;apply wr;refine AB rfl (fun h29=>?_) (fun h29=>?_)
 ·simp at h29;subst h29;refine au ?_;refine CU ?_;refine ar ?_;simp[AI,uA,uB,uC,Bz,Ak]
 simp at h29;refine au ?_;intros;apply wr;refine AB rfl (fun h30=>?_) (fun h30=>?_)
 ·simp at h30;subst h30;refine au ?_;refine ar ?_;simp[AI,uA,uB,uC,Bz,Ak]
 simp at h30;refine au ?_;intros;apply wr;refine AB rfl (fun h31=>?_) (fun h31=>?_)
 ·simp at h31;subst h31;refine au ?_;refine CU ?_;refine ar ?_;simp[AI,uA,uB,uC,Bz,Ak]
 simp at h31;refine au ?_;intros;apply wr;refine AB rfl (fun h32=>?_) (fun h32=>?_)
 ·simp at h32;subst h32;refine au ?_;refine CU ?_;refine ar ?_;simp[AI,uA,uB,uC,Bz,Ak]
 simp at h32;refine au ?_;intros;apply wr;refine AB rfl (fun h33=>?_) (fun h33=>?_)
 ·simp at h33;subst h33;refine au ?_;refine ar ?_;simp[AI,uA,uB,uC,Bz,Ak]
 simp at h33;refine au ?_;intros;apply wr;refine AB rfl (fun h34=>?_) (fun h34=>?_)
 ·simp at h34;subst h34;refine au ?_;refine ar ?_;simp[AI,uA,uB,uC,Bz,Ak]
 simp at h34;refine au ?_;intros;apply wr;refine AB rfl (fun h35=>?_) (fun h35=>?_)
 ·simp at h35;subst h35;refine au ?_;refine ar ?_;simp[AI,uA,uB,uC,Bz,Ak]
 simp at h35;refine au ?_;intros;apply wr;refine AB rfl (fun h36=>?_) (fun h36=>?_)
 ·simp at h36;subst h36;refine au ?_;refine CU ?_;refine ar ?_;simp[AI,uA,uB,uC,Bz,Ak]
 simp at h36;refine au ?_;intros;apply wr;refine AB rfl (fun h37=>?_) (fun h37=>?_)
 ·simp at h37;subst h37;refine au ?_;refine ar ?_;simp[AI,uA,uB,uC,Bz,Ak]
 simp at h37;refine au ?_;intros;apply wr;refine AB rfl (fun h38=>?_) (fun h38=>?_)
 ·simp at h38;subst h38;refine au ?_;refine CU ?_;refine ar ?_;simp[AI,uA,uB,uC,Bz,Ak]
 simp at h38;refine au ?_;intros;apply wr;refine AB rfl (fun h39=>?_) (fun h39=>?_)
 ·simp at h39;subst h39;refine au ?_;refine ar ?_;simp[AI,uA,uB,uC,Bz,Ak]
 simp at h39;refine au ?_;intros;apply wr;refine AB rfl (fun h40=>?_) (fun h40=>?_)
 ·simp at h40;subst h40;refine au ?_;refine CU ?_;refine ar ?_;simp[AI,uA,uB,uC,Bz,Ak]
 simp at h40;refine au ?_;intros;apply wr;refine AB rfl (fun h41=>?_) (fun h41=>?_)
 ·simp at h41;subst h41;refine au ?_;refine CU ?_;refine ar ?_;simp[AI,uA,uB,uC,Bz,Ak]
 simp at h41;refine au ?_;intros;apply wr;refine AB rfl (fun h42=>?_) (fun h42=>?_)
 ·simp at h42;subst h42;refine au ?_;refine CU ?_;refine ar ?_;simp[AI,uA,uB,uC,Bz,Ak]
 simp at h42;refine au ?_;intros;apply wr;refine AB rfl (fun h43=>?_) (fun h43=>?_)
 ·simp at h43;subst h43;refine au ?_;refine CU ?_;refine ar ?_;simp[AI,uA,uB,uC,Bz,Ak]
 simp at h43;refine au ?_;intros;apply wr;refine AB rfl (fun h44=>?_) (fun h44=>?_)
 ·simp at h44;subst h44;refine au ?_;refine ar ?_;simp[AI,uA,uB,uC,Bz,Ak]
 simp at h44;refine au ?_;have hf:AI op=0:=by
  unfold AI;repeat rw[if_neg (by omega)]
 refine ar ?_;simp[hf,uA,uB,uC,Bz,Ak]
def RR(r:Int)(used:Bool):Bool:=if used then decide (0<=r)&&decide (r<=15)else decide (r=0)
theorem Cy(r:Int)(u:Bool):AC prog 326 [.int .i64 r,.bool u] (.bool (RR r u)):=by
 refine sX func326 ntmps326 ?_;intros;apply wr;cases u with
 | true =>
  refine CU ?_;refine ar ?_;simp[RR]
 | false =>
  refine CX ?_;intros;apply wr;refine ar ?_;simp[RR];rw[Bool.eq_iff_iff];simp
def validD(i:InstD):Bool:=decide (AI i.op≠0)&&RR i.a (uA (AI i.op))&&RR i.b (uB (AI i.op))&&RR i.c (uC (AI i.op))&&decide (Bz (AI i.op)<=i.imm)&&decide (i.imm<=Ak (AI i.op))
set_option maxHeartbeats 4000000 in
theorem Lb(i:InstD):AC prog 301 [.st i.row] (.bool (validD i)):=by
 refine sX func301 ntmps301 ?_;refine cX (ZK i.op) ?_;intros;apply wr;first|refine BW (Cy i.a (uA (AI i.op))) rfl (fun hgd=>?_) (by simp[BV]) ?_|refine BC (Cy i.a (uA (AI i.op))) rfl (by simp) (fun hgd=>?_) (by simp[BV]) ?_
 all_goals simp
 all_goals (try (first|exact hgd|(simp at hgd;first|done|assumption|grind)))
 refine au ?_;intros;apply wr;first|refine BW (Cy i.b (uB (AI i.op))) rfl (fun hgd=>?_) (by simp[BV]) ?_|refine BC (Cy i.b (uB (AI i.op))) rfl (by simp) (fun hgd=>?_) (by simp[BV]) ?_
 all_goals simp
 all_goals (try (first|exact hgd|(simp at hgd;first|done|assumption|grind)))
 refine au ?_;intros;apply wr;first|refine BW (Cy i.c (uC (AI i.op))) rfl (fun hgd=>?_) (by simp[BV]) ?_|refine BC (Cy i.c (uC (AI i.op))) rfl (by simp) (fun hgd=>?_) (by simp[BV]) ?_
 all_goals simp
 all_goals (try (first|exact hgd|(simp at hgd;first|done|assumption|grind)))
 refine au ?_;intros;apply wr;refine ar ?_;simp[validD];try (rw[Bool.eq_iff_iff];simp)
theorem Eg(op:Int):0<=AI op/\AI op<=9:=by
 unfold AI
 (repeat' split)<;>omega
theorem Ef(op:Int):AI op=0\/AI op=1\/AI op=2\/AI op=3\/AI op=4\/AI op=5\/AI op=6\/AI op=7\/AI op=8\/AI op=9:=by have:=Eg op;omega
set_option maxHeartbeats 8000000 in
theorem Ii(op:Int):AC prog 165 [.int .i64 op] (.int .i64 (AI op)):=by
 refine sX func165 ntmps165 ?_;intros;apply wr;refine AB rfl (fun h1=>?_) (fun h1=>?_)
 ·simp at h1;refine au ?_;refine ar ?_;simp[AI,h1]
 simp at h1;refine au ?_;intros;apply wr;refine AB rfl (fun h2=>?_) (fun h2=>?_)
 ·simp at h2;have hf:AI op=3:=by unfold AI;rw[if_neg (by omega),if_pos (by omega)]
  refine au ?_;refine ar ?_;simp[hf]
 simp at h2;refine au ?_;intros;apply wr;refine AB rfl (fun h3=>?_) (fun h3=>?_)
 ·simp at h3;have hf:AI op=4:=by unfold AI;rw[if_neg (by omega),if_neg (by omega),if_pos (by omega)]
  refine au ?_;refine ar ?_;simp[hf]
 simp at h3;refine au ?_;intros;apply wr;refine AB rfl (fun h4=>?_) (fun h4=>?_)
 ·simp at h4;have hf:AI op=5:=by unfold AI;rw[if_neg (by omega),if_neg (by omega),if_neg (by omega),if_pos (by omega)]
  refine au ?_;refine ar ?_;simp[hf]
 simp at h4;refine au ?_;intros;apply wr;refine AB rfl (fun h5=>?_) (fun h5=>?_)
 ·simp at h5;have hf:AI op=6:=by unfold AI;rw[if_neg (by omega),if_neg (by omega),if_neg (by omega),if_neg (by omega),if_pos (by omega)]
  refine au ?_;refine ar ?_;simp[hf]
 simp at h5;refine au ?_;intros;apply wr;refine AB rfl (fun h6=>?_) (fun h6=>?_)
 ·simp at h6;have hf:AI op=7:=by unfold AI;rw[if_neg (by omega),if_neg (by omega),if_neg (by omega),if_neg (by omega),if_neg (by omega),if_pos (by omega)]
  refine au ?_;refine ar ?_;simp[hf]
 simp at h6;refine au ?_;intros;apply wr;refine AB rfl (fun h7=>?_) (fun h7=>?_)
 ·simp at h7;have hf:AI op=8:=by unfold AI;rw[if_neg (by omega),if_neg (by omega),if_neg (by omega),if_neg (by omega),if_neg (by omega),if_neg (by omega),if_pos (by omega)]
  refine au ?_;refine ar ?_;simp[hf]
 simp at h7;refine au ?_;intros;apply wr;refine AB rfl (fun h8=>?_) (fun h8=>?_)
 ·simp at h8;have hf:AI op=9:=by unfold AI;rw[if_neg (by omega),if_neg (by omega),if_neg (by omega),if_neg (by omega),if_neg (by omega),if_neg (by omega),if_neg (by omega),if_pos (by omega)]
  refine au ?_;refine ar ?_;simp[hf]
 simp at h8;refine au ?_;intros;apply wr;refine AB rfl (fun h9=>?_) (fun h9=>?_)
 ·simp at h9;have hf:AI op=1:=by unfold AI;rw[if_neg (by omega),if_neg (by omega),if_neg (by omega),if_neg (by omega),if_neg (by omega),if_neg (by omega),if_neg (by omega),if_neg (by omega),if_pos (by omega)]
  refine au ?_;refine ar ?_;simp[hf]
 simp at h9;have hf:AI op=0:=by
  unfold AI;repeat rw[if_neg (by omega)]
 refine au ?_;refine ar ?_;simp[hf]
theorem Ch(r:Int):AC prog 222 [.int .i64 r] (.bool (RR r true)):=by
 refine sX func222 ntmps222 ?_;refine ar ?_;simp[RR]
theorem Lt(f:Int):AC prog 166 [.int .i64 f] (.tup [.int .i64 (Bz f),.int .i64 (Ak f)]):=by
 refine sX func166 ntmps166 ?_;intros;apply wr;refine AB rfl (fun h1=>?_) (fun h1=>?_)
 ·simp at h1;subst h1;refine au ?_;refine CU ?_;refine ar ?_;simp[Bz,Ak]
 simp at h1;refine au ?_;intros;apply wr;refine AB rfl (fun h2=>?_) (fun h2=>?_)
 ·simp at h2;subst h2;refine au ?_;refine ar ?_;simp[Bz,Ak]
 simp at h2;refine au ?_;intros;apply wr;refine AB rfl (fun h3=>?_) (fun h3=>?_)
 ·simp at h3;subst h3;refine au ?_;refine CU ?_;refine ar ?_;simp[Bz,Ak]
 simp at h3;refine au ?_;intros;apply wr;refine AB rfl (fun h4=>?_) (fun h4=>?_)
 ·simp at h4;subst h4;refine au ?_;refine ar ?_;simp[Bz,Ak]
 simp at h4;refine au ?_;intros;apply wr;refine AB rfl (fun h5=>?_) (fun h5=>?_)
 ·simp at h5;subst h5;refine au ?_;refine ar ?_;simp[Bz,Ak]
 simp at h5;refine au ?_;intros;apply wr;refine AB rfl (fun h6=>?_) (fun h6=>?_)
 ·simp at h6;subst h6;refine au ?_;refine ar ?_;simp[Bz,Ak]
 simp at h6;refine au ?_;intros;apply wr;refine AB rfl (fun h7=>?_) (fun h7=>?_)
 ·simp at h7;subst h7;refine au ?_;refine ar ?_;simp[Bz,Ak]
 simp at h7;refine au ?_;refine ar ?_;simp[Bz,Ak,h1,h2,h3,h4,h5,h6,h7]
set_option maxHeartbeats 8000000 in
theorem FU(i:InstD)(hi:-2147483648<=i.imm/\i.imm<=2147483647):AC prog 164 [.st i.row] (.bool (validD i)):=by
 have hw:IntKind.i64.wrap i.imm=i.imm:=AA (by omega) (by omega);refine sX func164 ntmps164 ?_;refine cX (Ii i.op) ?_;intros;apply wr;first|refine BW (Ch i.a) rfl (fun hgd=>?_) (by simp[BV]) ?_|refine BC (Ch i.a) rfl (by simp) (fun hgd=>?_) (by simp[BV]) ?_
 all_goals simp
 all_goals (try (first|exact hgd|(simp at hgd;first|done|assumption|grind)))
 refine au ?_;intros;apply wr;first|refine BW (Ch i.b) rfl (fun hgd=>?_) (by simp[BV]) ?_|refine BC (Ch i.b) rfl (by simp) (fun hgd=>?_) (by simp[BV]) ?_
 all_goals simp
 all_goals (try (first|exact hgd|(simp at hgd;first|done|assumption|grind)))
 refine au ?_;intros;apply wr;first|refine BW (Ch i.c) rfl (fun hgd=>?_) (by simp[BV]) ?_|refine BC (Ch i.c) rfl (by simp) (fun hgd=>?_) (by simp[BV]) ?_
 all_goals simp
 all_goals (try (first|exact hgd|(simp at hgd;first|done|assumption|grind)))
 refine au ?_;intros;apply wr;refine AB rfl (fun h1=>?_) (fun h1=>?_)
 ·have hv:validD i=false:=by
   rcases Ef i.op with h|h|h|h|h|h|h|h|h|h<;>simp[validD,RR,uA,uB,uC,h]at h1 ⊢<;>(try omega)
  refine au ?_;refine ar ?_;simp[hv]
 refine au ?_;refine cY (Lt (AI i.op)) @hw ?_;intros;apply wr;refine AB rfl (fun h2=>?_) (fun h2=>?_)
 ·have hv:validD i=false:=by
   rcases Ef i.op with h|h|h|h|h|h|h|h|h|h<;>simp[validD,RR,uA,uB,uC,Bz,Ak,h]at h1 h2 ⊢<;>(try omega)
  refine au ?_;refine ar ?_;simp[hv]
 refine au ?_;intros;apply wr;refine ar ?_;simp;rw[Bool.eq_iff_iff];rcases Ef i.op with h|h|h|h|h|h|h|h|h|h<;>simp[validD,RR,uA,uB,uC,Bz,Ak,h]at h1 h2 ⊢<;>(try omega)
end Go.Proofs.YtjkmhmepljamoaaGreat
end
