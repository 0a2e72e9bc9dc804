/-
  LowerMany: what the law answers.
-/
import Derived.Test.YtachcambnjecnaaM0a
import Derived.Test.YtachcambnjecnaaM0b
import Derived.Test.YtachcambnjecnaaM1a
import Derived.Test.YtachcambnjecnaaM1b
import Derived.Test.YtachcambnjecnaaM2a
import Derived.Test.YtachcambnjecnaaM2b
import Derived.Test.YtachcambnjecnaaM2e
import Derived.Test.YtachcambnjecnaaM2c
import Derived.Test.YtachcambnjecnaaM2d
import Derived.Test.YtachcambnjecnaaM3a
import Derived.Test.YtachcambnjecnaaM3b
import Derived.Test.YtachcambnjecnaaM4a
import Derived.Test.YtachcambnjecnaaM4b

set_option maxRecDepth 100000
namespace U13
open Ax Go Code13
theorem many_of {w:Int}{b k:Nat}(h:((List.range k).all fun n=>says ((korc S 200).call 0 0 3 [.int .i64 w,.int .i64 ((n+b:Nat):Int)] []))=true){n:Int}(h1:(b:Int)<=n)(h2:n<(b:Int)+(k:Int)):(orcL S).call 0 0 3 [.int .i64 w,.int .i64 n] []=some (.bool true,[]):=by
 obtain⟨d,rfl⟩:∃d:Nat,n=((d+b:Nat):Int):=⟨(n-b).toNat,by omega⟩
 exact call_k (says_eq (List.all_eq_true.1 h d (List.mem_range.2 (by omega))))
theorem law_many (w n:Int):(orcL S).call 0 0 3 [.int .i64 w,.int .i64 n] []=some (.bool true,[]):=by
 by_cases h1:w<0
 ·refine call_pure (sf:=s3) rfl rfl (by simp) rfl (by simp) ?_
  simp[s3,h1]
 by_cases h2:4<w
 ·refine call_pure (sf:=s3) rfl rfl (by simp) rfl (by simp) ?_
  simp[s3,h1,h2]
 by_cases h3:n<0
 ·refine call_pure (sf:=s3) rfl rfl (by simp) rfl (by simp) ?_
  simp[s3,h1,h2,h3]
 by_cases h4:20<n
 ·refine call_pure (sf:=s3) rfl rfl (by simp) rfl (by simp) ?_
  simp[s3,h1,h2,h3,h4]
 have a:0<=n:=by omega
 have b:n<=20:=by omega
 have c:w=0\/w=1\/w=2\/w=3\/w=4:=by omega
 rcases c with rfl|rfl|rfl|rfl|rfl
 ·by_cases d1:n<5
  ·exact many_of many0_0 (by omega) (by omega)
  by_cases d2:n<10
  ·exact many_of many0_5 (by omega) (by omega)
  by_cases d3:n<15
  ·exact many_of many0_10 (by omega) (by omega)
  exact many_of many0_15 (by omega) (by omega)
 ·by_cases d1:n<5
  ·exact many_of many1_0 (by omega) (by omega)
  by_cases d2:n<10
  ·exact many_of many1_5 (by omega) (by omega)
  by_cases d3:n<15
  ·exact many_of many1_10 (by omega) (by omega)
  exact many_of many1_15 (by omega) (by omega)
 ·by_cases d1:n<5
  ·exact many_of many2_0 (by omega) (by omega)
  by_cases d2:n<10
  ·exact many_of many2_5 (by omega) (by omega)
  by_cases d5:n<13
  ·exact many_of many2_10 (by omega) (by omega)
  by_cases d3:n<15
  ·exact many_of many2_13 (by omega) (by omega)
  by_cases d4:n<18
  ·exact many_of many2_15 (by omega) (by omega)
  exact many_of many2_18 (by omega) (by omega)
 ·by_cases d1:n<5
  ·exact many_of many3_0 (by omega) (by omega)
  by_cases d2:n<10
  ·exact many_of many3_5 (by omega) (by omega)
  by_cases d3:n<15
  ·exact many_of many3_10 (by omega) (by omega)
  exact many_of many3_15 (by omega) (by omega)
 ·by_cases d1:n<5
  ·exact many_of many4_0 (by omega) (by omega)
  by_cases d2:n<10
  ·exact many_of many4_5 (by omega) (by omega)
  by_cases d3:n<15
  ·exact many_of many4_10 (by omega) (by omega)
  exact many_of many4_15 (by omega) (by omega)
end U13
