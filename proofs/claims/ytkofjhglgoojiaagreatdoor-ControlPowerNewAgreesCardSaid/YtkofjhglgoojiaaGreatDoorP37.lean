/-
  Joined.
-/
import Derived.Test.YtkofjhglgoojiaaGreatDoorP33
import Derived.Test.YtkofjhglgoojiaaGreatDoorP36
set_option linter.unusedSimpArgs false
set_option linter.unusedVariables false
namespace Go.Proofs.YtkofjhglgoojiaaGreatDoor.Pw
set_option maxRecDepth 100000
set_option maxHeartbeats 20000000
open Go.Tk Go.Sv Go.Rails Go.Dg Go.Pw
attribute [local irreducible] KV SV OV Step Code.wp wpList Exit.then Exit.inBlock Blk OS Big Bun
theorem mapO_fn (b:Nat) (s:Ios.BS) {w:World} (hk:s.ok) (z p q o:Int) (hp:Ios.isU p):Fx Tryz.prog 30 [.pointer (some ⟨b,0,none⟩),.int .i64 z,.agg #[.int .u64 p,.int .u64 q],.int .i64 o] w (Ios.busL b s) no (fun v L=> ∃e s2,v= .int .i64 e∧L=Ios.busL b s2∧Ios.MapO s z p q o e s2):=
 (Is.map_fn b s hk z p q o hp).mono fun v L h=>by
  by_cases hg:Ios.goodM z p q o
  ·obtain⟨m,rfl⟩:=Int.eq_ofNat_of_zero_le hg.1.1
   obtain⟨h1,h2⟩:=h.2 m rfl hg
   by_cases hb:Ios.busy (s.sp m).hs p q
   ·obtain⟨h3,h4⟩:=h1 hb
    exact⟨_,_,h3,h4,.busy m rfl hg hb⟩
   ·by_cases ht:s.total=256
    ·obtain⟨h3,h4⟩:=(h2 hb).1 ht
     exact⟨_,_,h3,h4,.full m rfl hg hb ht⟩
    ·obtain⟨h3,bp,A,c,h4⟩:=(h2 hb).2 ht
     exact⟨_,_,h3,h4,.done m bp A c rfl hg hb ht⟩
  ·obtain⟨h3,h4⟩:=h.1 hg
   exact⟨_,_,h3,h4,.bad hg⟩
theorem mapR_fn (b:Nat) (r:Ios.RB) {w:World} (hk:r.ok) (z p q o:Int) (hp:Ios.isU p):Fx Tryz.prog 34 [.pointer (some ⟨b,0,none⟩),.int .i64 z,.agg #[.int .u64 p,.int .u64 q],.int .i64 o] w (Ios.rbL b r) no (fun v L=> ∃e r2,v= .int .i64 e∧L=Ios.rbL b r2∧Ios.MapR r z p q o e r2):=
 (Is.rmap_fn b r hk z p q o hp).mono fun v L h=>by
  by_cases hg:Ios.goodM z p q o
  ·obtain⟨h1,h2⟩:=h.2 hg
   by_cases hb: ∃i,i<r.ms.length∧Ios.busyR r.ms z p q i
   ·obtain⟨h3,h4⟩:=h1 hb
    exact⟨_,_,h3,h4,.busy hg hb⟩
   ·have hb2: ∀i,i<r.ms.length→ ¬Ios.busyR r.ms z p q i:=fun i hi k=>hb ⟨i,hi,k⟩
    by_cases ht:r.ms.length=256
    ·obtain⟨h3,h4⟩:=(h2 hb2).1 ht
     exact⟨_,_,h3,h4,.full hg hb2 ht⟩
    ·obtain⟨h3,A,A2,c2,h4⟩:=(h2 hb2).2 ht
     exact⟨_,_,h3,h4,.done A A2 c2 hg hb2 ht⟩
  ·obtain⟨h3,h4⟩:=h.1 hg
   exact⟨_,_,h3,h4,.bad hg⟩
theorem enO_fn (b:Nat) (s:Ios.BS) {w:World} (hk:s.ok) (o:Int) (v:Bool):Fx Tryz.prog 32 [.pointer (some ⟨b,0,none⟩),.int .i64 o,.bool v] w (Ios.busL b s) no (fun x L=> ∃e s2,x= .int .i64 e∧L=Ios.busL b s2∧Ios.EnO s o v e s2):=
 (Is.enable_fn b s hk o v).mono fun x L h=>by
  by_cases hg:0≤o∧o<256
  ·obtain⟨h3,h4⟩:=h.2 hg
   exact⟨_,_,h3,h4,.done hg⟩
  ·obtain⟨h3,h4⟩:=h.1 hg
   exact⟨_,_,h3,h4,.bad hg⟩
theorem enR_fn (b:Nat) (r:Ios.RB) {w:World} (hk:r.ok) (o:Int) (v:Bool):Fx Tryz.prog 36 [.pointer (some ⟨b,0,none⟩),.int .i64 o,.bool v] w (Ios.rbL b r) no (fun x L=> ∃e r2,x= .int .i64 e∧L=Ios.rbL b r2∧Ios.EnR r o v e r2):=
 (Is.renable_fn b r hk o v).mono fun x L h=>by
  by_cases hg:0≤o∧o<256
  ·obtain⟨h3,h4⟩:=h.2 hg
   exact⟨_,_,h3,h4,.done hg⟩
  ·obtain⟨h3,h4⟩:=h.1 hg
   exact⟨_,_,h3,h4,.bad hg⟩
theorem NewPower_fn {A B C:Option Addr} {n c m d q e:Nat} {ds:List BDv} {rs:List Rail} {bs:List Int} {w:World} (hr:RS w bdK A ds) (hn:n=ds.length) (hl:ds.length≤1000000) (hr2:RS w railK B rs) (hm:m=rs.length) (hl2:rs.length≤1000000) (hr3:RS w (intK .u64) C bs) (hq:q=bs.length) (hl3:bs.length≤1000000) (hb: ∀i,i<ds.length→(ds.getD i bdK.d).inn w) (hE:Dv.EvR w) (bb:Nat) (s:Ios.BS) (hk:s.ok) (hu: ∀i,i<bs.length→Ios.isU (bs.getD i (intK .u64).d)):Fx Tryz.prog 9 [.slice A n c,.slice B m d,.slice C q e,.pointer (some ⟨bb,0,none⟩)] w (Ios.busL bb s) (fun b=>Dv.at4 b∨roP A B C ds rs bs b) (fun v L=>(PwOk ds rs bs→ ∃e s2,EndO (psM ds bs) s ds.length e s2∧((e=0∧ ∃p:CP,v= .tuple #[.pointer (some ⟨p.b,0,none⟩),.int .i64 0]∧p.fresh ds rs bs bb∧L=cpL p++Ios.busL bb s2)∨(e≠0∧v= .tuple #[.pointer none,.int .i64 e]∧L=Ios.busL bb s2)))∧(¬PwOk ds rs bs→v= .tuple #[.pointer none,.int .i64 1]∧L=Ios.busL bb s)):=by
 subst hn
 subst hm
 subst hq
 refine Fb ?_
 intro I hro hI
 refine J12 ?_
 refine RV.op (OV.call [] (F:=[_,_,_,_]) C29.f C29.b C29.n rfl rfl (fun w h=>newPower_fn (h.rs hr (fun hn=>hro _ (.inr (.inl ⟨hn,rfl⟩)))) rfl hl (h.rs hr2 (fun hn=>hro _ (.inr (.inr (.inl ⟨hn,rfl⟩))))) rfl hl2 (h.rs hr3 (fun hn=>hro _ (.inr (.inr (.inr (.inl ⟨hn,rfl⟩)))))) rfl hl3 (fun i hi=>⟨fun k hk=>h.rs ((hb i hi).1 k hk) (fun hn=>hro _ (.inr (.inr (.inr (.inr ⟨i,hi,.inl ⟨k,hk,hn,rfl⟩⟩))))),(hb i hi).2.1,h.rs (hb i hi).2.2.1 (fun hn=>hro _ (.inr (.inr (.inr (.inr ⟨i,hi,.inr ⟨hn,rfl⟩⟩))))),(hb i hi).2.2.2⟩) (Dv.EvR.keep h hE (hro 4 (.inl rfl))) bb) (fun b hb=>Dv.roAt4 hE (fun b hb=>hro b (.inl hb)) b hb) gno rfl (fun v L' hp=>?_))
 by_cases hok:PwOk ds rs bs
 obtain⟨p,rfl,hf,rfl⟩:=hp.1 hok
 refine KV.heap (fun w h=>cpClose (X:=[_,_,_,_]) h) ?_
 refine J15 ?_
 refine J6 ?_
 refine Jp rfl ?_
 refine J7 ?_
 refine K7 [4,4,4,0,0,0,0] rfl ?_
 refine CV.loop2 (fun(i:Nat) (s2:Ios.BS)=>i≤p.us.length∧OkO (psM ds bs) s i s2) (fun(i:Nat) (s2:Ios.BS)=>p.us.length-i) (fun(i:Nat) (s2:Ios.BS)=>[(3,.pointer (some ⟨bb,0,none⟩)),(10,.pointer (some ⟨p.b,0,none⟩)),(28,.slice p.uA p.us.length p.uc),(29,.int .i64 p.us.length),(30,.int .i64 i)]) (fun(i:Nat) (s2:Ios.BS)=>Hp I w ([cpB p,cpU p,Bun (cpR p)]++Ios.busL bb s2)) (0) (s) ⟨Nat.zero_le _,rfl⟩ (sb rfl) (fun _ h=>h) ?_
 intro i s2 hinv
 refine J2 ?_
 refine Jlt rfl rfl (fun cc1=>?_) (fun cc1=>?_)
 refine J9 ?_
 have hun:=hf.un
 have hub:(p.us.getD i unK.d).base=bs.getD i (intK .u64).d:=(hf.us i (by omega)).1.2.2
 have huo:(p.us.getD i unK.d).own=(ds.getD i bdK.d).fn:=(hf.us i (by omega)).1.1
 have hbl:=hok.nb
 have hk2:=hinv.2.ok hk (fun j hj=>hu j (by omega))
 refine J3 ?_
 refine RV.op (Ya (fun b6_2=>?_))
 refine Zw 7 [_,_,_,_,_,_,_,_,_,_,_,_,_,_,_,_,_,_,_,_] #[_,_,_,_,_,_,_,_,_,_,_,_,_,_,_,_,_,_,_,_] ?_
 refine J4 ?_
 refine An (Hp I w [Blk b6_2 (.cells (unC (p.us.getD i unK.d)).toArray 116 (0,0))]) 8 ?_
 refine W 0 ?_
 refine W 1 ?_
 refine W 2 ?_
 refine W 4 ?_
 refine W 5 ?_
 refine V1 3 ?_
 refine Yc [] (F:=[_,_,_,_,_,_,_,_]) rfl rfl (fun w h=>regs_fn (p.us.getD i unK.d).base) (fun v L' hp=>?_)
 obtain⟨rfl,rfl⟩:=hp
 refine Wn ?_
 refine V1 6 ?_
 refine Yc [3,3,3,3] (F:=[_,_,_,_]) rfl rfl (fun w h=>mapO_fn bb s2 hk2 0 (p.us.getD i unK.d).base 256 (p.us.getD i unK.d).own (by rw[hub];exact hu i (by omega))) (fun v L' hp=>?_)
 obtain⟨e,s3,rfl,rfl,hmo⟩:=hp
 refine Wn ?_
 refine W 7 ?_
 refine Vd ?_
 refine J4 ?_
 refine Jne rfl rfl (fun he=>?_) (fun he=>?_)
 rw[hub,huo] at hmo
 refine J15 ?_
 refine J2 ?_
 refine K4 [4,4,4,4] rfl ?_
 exact Rc rfl rfl rfl ⟨fun _=>⟨e,s3,.inr ⟨he,i,s2,by omega,hinv.2,hmo⟩,.inr ⟨he,rfl,rfl⟩⟩,fun h0=>absurd hok h0⟩
 have he0:=Decidable.not_not.1 he
 have hk3:=mapO_ok hk2 (by rw[hub];exact hu i (by omega)) hmo
 rw[hub,huo] at hmo
 refine J9 ?_
 refine RV.op (Yc [4,4,4,4] (F:=[_,_,_,_]) rfl rfl (fun w h=>enO_fn bb s3 hk3 (p.us.getD i unK.d).own false) (fun v L' hp=>?_))
 obtain⟨e2,s4,rfl,rfl,heo⟩:=hp
 refine J8 ?_
 refine K7 [0,0,0,1,1,1,1] rfl ?_
 exact KV.loop2 (x:=i) (y:=s2) (i+1) (s4) ⟨by omega,s2,s3,e2,hinv.2,he0▸hmo,(show Ios.EnO s3 (ds.getD i bdK.d).fn false e2 s4 from huo▸heo)⟩ (by omega) (sb rfl) (fun _ h=>h)
 refine J10 ?_
 obtain rfl:i=p.us.length:=by omega
 have hun:=hf.un
 refine J7 ?_
 refine E7 ?_
 exact KV.ret2 rfl rfl rfl _ (fun _ h=>cpOpen h) ⟨fun _=>⟨0,s2,.inl ⟨rfl,hun▸hinv.2⟩,.inl ⟨rfl,p,rfl,hf,rfl⟩⟩,fun h0=>absurd hok h0⟩
 obtain⟨rfl,rfl⟩:=hp.2 hok
 simp only[List.append_nil]
 refine J15 ?_
 refine J8 ?_
 refine E4 ?_
 exact Rc rfl rfl rfl ⟨fun hk=>absurd hk hok,fun _=>⟨rfl,rfl⟩⟩
end Go.Proofs.YtkofjhglgoojiaaGreatDoor.Pw
