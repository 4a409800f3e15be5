/-
  Joined.
-/
import Derived.Test.YtkofjhglgoojiaaGreatDoorP17
set_option linter.unusedSimpArgs false
set_option linter.unusedVariables false
namespace Go.Proofs.YtkofjhglgoojiaaGreatDoor.Dv
set_option maxRecDepth 100000
set_option maxHeartbeats 20000000
open Go.Tk Go.Sv Go.Drv
attribute [local irreducible] KV SV OV Step Code.wp wpList Exit.then Exit.inBlock Blk OS Big Bun
theorem dgt_fin: ∀p:Fin 10,((([48,49,50,51,52,53,54,55,56,57]:Bs).take (p.val+1)).drop p.val)=[UInt8.ofNat (48+p.val)]:=by decide
theorem dgt {p:Nat} (h:p<10):((([48,49,50,51,52,53,54,55,56,57]:Bs).take (p+1)).drop p)=[UInt8.ofNat (48+p)]:=dgt_fin ⟨p,h⟩
theorem dec_step {n:Nat} (h:9<n):Lib.decDigits n=Lib.decDigits (n/10)++[UInt8.ofNat (48+n%10)]:=by rw[Lib.decDigits,dif_neg (by omega)]
theorem dec_last {n:Nat} (h: ¬9<n):Lib.decDigits n=[UInt8.ofNat (48+n)]:=by rw[Lib.decDigits,dif_pos (by omega)]
theorem rdec_fn (v:Int) (hv:u64 v):FxP Tryz.prog 141 [.int .u64 v] (.string (bs (dec v))):=by
 refine Fp ?_
 intro wp
 have hv0:=hv.1
 have hv1:=hv.2
 have hdl:=dec_len hv
 refine J2 ?_
 refine Jr (Step.assign (v:= .string (Sv.bs [])) rfl) ?_
 refine J4 ?_
 refine Jr (Step.assign (v:= .string (Sv.bs [])) rfl) ?_
 refine J4 ?_
 refine CV.loop2 (fun(n:Nat) (s:Bs)=>dec v=Lib.decDigits n++s∧n<18446744073709551616) (fun(n:Nat) (s:Bs)=>n) (fun(n:Nat) (s:Bs)=>[(0,.int .u64 (n:Int)),(3,.string (bs s))]) (fun(n:Nat) (s:Bs)=>fun w1=>w1=wp) (v.toNat) ([]) ⟨by simp[dec],by omega⟩ ⟨(by show some (Value.int .u64 v)=_;rw[Int.toNat_of_nonneg hv0]),rfl,trivial⟩ (fun _ h=>h) ?_
 intro n s hinv
 refine J4 ?_
 refine Jgt rfl rfl (fun h9=>?_) (fun h9=>?_)
 refine J7 ?_
 have hsl:(Lib.decDigits n++s).length≤20:=by rw[←hinv.1];exact hdl
 rw[List.length_append] at hsl
 refine J2 ?_
 refine Jr (Step.rem rfl rfl (by omega) ((tmodN n 10))) ?_
 refine J1 ?_
 refine Jr (Step.rem rfl rfl (by omega) ((tmodN n 10))) ?_
 refine J1 ?_
 refine Jr (Step.slStrLH (l:=[48,49,50,51,52,53,54,55,56,57]) Tryz.underlying9 rfl rfl rfl (n%10) (n%10+1) (rfl) ((by omega)) (by first|omega|(simp only[List.length_cons,List.length_nil];omega)) (by first|omega|(simp only[List.length_cons,List.length_nil];omega))) ?_
 refine J1 ?_
 refine Jr (Step.addStr rfl rfl (by(rw[dgt (Nat.mod_lt _ (by decide))];simp only[List.length_cons,List.length_nil];omega))) ?_
 refine J5 ?_
 refine Jr (Step.quo rfl rfl (by omega) ((wU64 (x:=((n/10:Nat):Int)) (by omega) (by omega)))) ?_
 refine J4 ?_
 exact KV.loop2 (x:=n) (y:=s) (n/10) ([UInt8.ofNat (48+n%10)]++s) ⟨by rw[hinv.1,dec_step (by omega)];simp,by omega⟩ (by omega) ⟨rfl,(by rw[←dgt (Nat.mod_lt n (by decide))];rfl),trivial⟩ (fun _ h=>h)
 refine J9 ?_
 have hsl:(Lib.decDigits n++s).length≤20:=by rw[←hinv.1];exact hdl
 rw[List.length_append] at hsl
 refine J4 ?_
 refine Jr (Step.slStrLH (l:=[48,49,50,51,52,53,54,55,56,57]) Tryz.underlying9 rfl rfl rfl (n) (n+1) (rfl) ((by omega)) (by first|omega|(simp only[List.length_cons,List.length_nil];omega)) (by first|omega|(simp only[List.length_cons,List.length_nil];omega))) ?_
 refine J1 ?_
 refine Jr (Step.addStr rfl rfl (by(rw[dgt (by omega)];simp only[List.length_cons,List.length_nil];omega))) ?_
 refine J4 ?_
 exact KV.retP1 rfl rfl (by rw[dgt (by omega),←dec_last (by omega),hinv.1])
theorem gd_app (s:Bs) {g:Gd} (h:g.used=true):s++gdT g=((((((s++[32,105,102,32])++dec g.reg)++[32,38,32])++dec g.mask)++[32,61,32])++dec g.val):=by
 unfold gdT
 rw[if_pos h]
 simp[sIfS,sAmp,sEqS]
theorem gd_no (s:Bs) {g:Gd} (h:g.used=false):s++gdT g=s:=by
 unfold gdT
 rw[if_neg (by rw[h];decide),List.append_nil]
theorem ops_snoc {ops:List Ro} {j:Nat} (hj:j<ops.length):opsT (ops.take (j+1))=(opsT (ops.take j)++(if j=0 then [58,32] else [59,32]))++roT (ops.getD j roK.d):=by
 have e1:ops.take (j+1)=ops.take j++[ops.getD j roK.d]:=by
  rw[List.take_add_one,List.getD,List.getElem?_eq_getElem hj];rfl
 rw[e1]
 cases j with
 |zero=>simp[opsT,moreT]
 |succ j=>
  rw[if_neg (by omega)]
  cases ops with
  |nil=>simp at hj
  |cons o r=>
   show opsT (o::(r.take j++[_]))=opsT (o::r.take j)++[59,32]++_
   unfold opsT moreT
   simp
theorem roT_t {o:Ro} (h:o.wr=true):roT o=((sWrS++dec o.reg)++[32])++dec o.val:=by unfold roT;rw[if_pos h]
theorem roT_f {o:Ro} (h:o.wr=false):roT o=sRdS++dec o.reg:=by unfold roT;rw[if_neg (by rw[h];decide)]
def trX (t:Tr) (to:Bs):Bs:=(((((sOnS++t.ev)++gdT t.gd)++sArr)++to)++opsT t.ops)++[10]
def hdX (t:Tr) (to:Bs):Bs:=(((sOnS++t.ev)++gdT t.gd)++sArr)++to
theorem rtransition_fn (h0:TH) (to:Bs) {w:World} (ho:RS w roK h0.A h0.t.ops) (hr:rgT h0.t) (hl:h0.t.ops.length≤16) (he:h0.t.ev.length≤32) (hto:to.length≤32):Fx Tryz.prog 103 [.agg #[.int .i64 h0.t.frm,.string (bs h0.t.ev),.bool h0.t.gd.used,.int .u64 h0.t.gd.reg,.int .u64 h0.t.gd.mask,.int .u64 h0.t.gd.val,.slice h0.A h0.t.ops.length h0.c,.int .i64 h0.t.to],.string (bs to)] w [] no (fun x L=>x= .string (bs (trX h0.t to))∧L=[]):=by
 refine Fb ?_
 intro I hro hI
 have e1:=dec_len hr.1.1
 have e2:=dec_len hr.1.2.1
 have e3:=dec_len hr.1.2.2
 have e9:=gdT_len hr.1
 refine J2 ?_
 refine RV.op (Yb #[_,_,_,_,_,_,_,_] rfl rfl (fun q=>?_))
 refine Jr (Step.assign (v:= .string (Sv.bs [])) rfl) ?_
 refine J6 ?_
 refine Jr (Step.addStr (l:=[32,32,111,110,32]) rfl rfl (by(simp only[List.length_append,List.length_cons,List.length_nil];omega))) ?_
 refine J3 ?_
 refine CV.join (α:=Unit) (fun _=>[(1,.string (bs to)),(2,.pointer (some ⟨q,0,none⟩)),(5,.string (bs ((sOnS++h0.t.ev)++gdT h0.t.gd)))]) (fun _=>Hp I w [Blk q (.cells #[.int .i64 h0.t.frm,.string (bs h0.t.ev),.bool h0.t.gd.used,.int .u64 h0.t.gd.reg,.int .u64 h0.t.gd.mask,.int .u64 h0.t.gd.val,.slice h0.A h0.t.ops.length h0.c,.int .i64 h0.t.to] 191 (0,0))]) ?_ ?_
 refine J7 ?_
 refine KV.cases 12 rfl (fun cc1=>?_) (fun cc1=>?_)
 have hu:=cc1
 refine J1 ?_
 refine Zs ?_
 refine J1 ?_
 refine Sr (Step.addStr (l2:=[32,105,102,32]) rfl rfl (by(simp only[List.length_append,List.length_cons,List.length_nil];omega))) ?_
 refine J3 ?_
 refine SV.call C141.f C141.b C141.n rfl (rdec_fn h0.t.gd.reg hr.1.1) gno rfl ?_
 refine Sr (Step.addStr rfl rfl (by(simp only[List.length_append,List.length_cons,List.length_nil];omega))) ?_
 refine Sr (Step.addStr (l2:=[32,38,32]) rfl rfl (by(simp only[List.length_append,List.length_cons,List.length_nil];omega))) ?_
 refine J3 ?_
 refine SV.call C141.f C141.b C141.n rfl (rdec_fn h0.t.gd.mask hr.1.2.1) gno rfl ?_
 refine Sr (Step.addStr rfl rfl (by(simp only[List.length_append,List.length_cons,List.length_nil];omega))) ?_
 refine Sr (Step.addStr (l2:=[32,61,32]) rfl rfl (by(simp only[List.length_append,List.length_cons,List.length_nil];omega))) ?_
 refine J3 ?_
 refine SV.call C141.f C141.b C141.n rfl (rdec_fn h0.t.gd.val hr.1.2.2) gno rfl ?_
 refine Sr (Step.addStr rfl rfl (by(simp only[List.length_append,List.length_cons,List.length_nil];omega))) ?_
 refine J1 ?_
 refine SV.nil ?_
 refine J1 ?_
 refine E1 ?_
 exact KV.join () ⟨rfl,rfl,(by first|(rw[gd_app _ hu];rfl)|(rw[gd_no _ hu];rfl)),trivial⟩ (fun _ h=>h)
 have hu:=cc1
 refine J3 ?_
 refine E1 ?_
 exact KV.join () ⟨rfl,rfl,(by first|(rw[gd_app _ hu];rfl)|(rw[gd_no _ hu];rfl)),trivial⟩ (fun _ h=>h)
 intro _
 refine J3 ?_
 refine Jr (Step.addStr (l2:=[32,45,62,32]) rfl rfl (by(simp only[List.length_append,sOnS,List.length_cons,List.length_nil];omega))) ?_
 refine J1 ?_
 refine Jr (Step.addStr rfl rfl (by(simp only[List.length_append,sOnS,List.length_cons,List.length_nil];omega))) ?_
 refine J10 ?_
 refine E1 ?_
 refine CV.loopI (fun(j:Nat)=>j≤h0.t.ops.length) (fun(j:Nat)=>h0.t.ops.length-j) (fun(j:Nat)=>[(2,.pointer (some ⟨q,0,none⟩)),(5,.string (bs (hdX h0.t to++opsT (h0.t.ops.take j)))),(6,.int .i64 j)]) (fun(j:Nat)=>Hp I w [Blk q (.cells #[.int .i64 h0.t.frm,.string (bs h0.t.ev),.bool h0.t.gd.used,.int .u64 h0.t.gd.reg,.int .u64 h0.t.gd.mask,.int .u64 h0.t.gd.val,.slice h0.A h0.t.ops.length h0.c,.int .i64 h0.t.to] 191 (0,0))]) (0) (Nat.zero_le _) ⟨rfl,(by rw[List.take_zero];unfold opsT;rw[List.append_nil];rfl),rfl,trivial⟩ (fun _ h=>h) ?_
 intro j hjl
 refine J7 ?_
 refine Jlt rfl rfl (fun hj=>?_) (fun hj=>?_)
 have hrj:=rg_at hr.2 (j:=j) (by omega)
 have e4:=dec_len hrj.1
 have e5:=dec_len hrj.2
 have e6:=opsT_len (l:=h0.t.ops.take j) (fun o ho2=>hr.2 o (List.mem_of_mem_take ho2))
 have e7:(h0.t.ops.take j).length≤16:=by rw[List.length_take];omega
 have e8:(hdX h0.t to).length≤300:=by unfold hdX;simp only[List.length_append,sOnS,sArr,List.length_cons,List.length_nil];omega
 refine J7 ?_
 refine CV.join (α:=Unit) (fun _=>[(2,.pointer (some ⟨q,0,none⟩)),(5,.string (bs ((hdX h0.t to++opsT (h0.t.ops.take j))++(if j=0 then [58,32] else [59,32])))),(6,.int .i64 j)]) (fun _=>Hp I w [Blk q (.cells #[.int .i64 h0.t.frm,.string (bs h0.t.ev),.bool h0.t.gd.used,.int .u64 h0.t.gd.reg,.int .u64 h0.t.gd.mask,.int .u64 h0.t.gd.val,.slice h0.A h0.t.ops.length h0.c,.int .i64 h0.t.to] 191 (0,0))]) ?_ ?_
 refine J3 ?_
 refine Jeq rfl rfl (fun hz=>?_) (fun hz=>?_)
 refine J5 ?_
 refine Jr (Step.addStr (l2:=[58,32]) rfl rfl (by(simp only[List.length_append,List.length_cons,List.length_nil];omega))) ?_
 refine J3 ?_
 refine E1 ?_
 exact KV.join () ⟨rfl,(by first|(rw[if_pos (by omega)];rfl)|(rw[if_neg (by omega)];rfl)),rfl,trivial⟩ (fun _ h=>h)
 refine J5 ?_
 refine Jr (Step.addStr (l2:=[59,32]) rfl rfl (by(simp only[List.length_append,List.length_cons,List.length_nil];omega))) ?_
 refine J3 ?_
 refine E1 ?_
 exact KV.join () ⟨rfl,(by first|(rw[if_pos (by omega)];rfl)|(rw[if_neg (by omega)];rfl)),rfl,trivial⟩ (fun _ h=>h)
 intro _
 have e10:(if j=0 then [58,32] else [59,32]:Bs).length=2:=by split<;>rfl
 refine J5 ?_
 refine Jr (Ti (fun w h=>(h.rs ho fun _=>hI _)) rfl rfl (rfl) _ rfl (by omega)) ?_
 refine J1 ?_
 refine Jr (Tc rfl (fun w h=>(h.rs ho fun _=>hI _).cell0 (by omega) rfl)) ?_
 refine J2 ?_
 refine KV.cases 54 rfl (fun cc2=>?_) (fun cc2=>?_)
 have hw:=cc2
 refine J1 ?_
 refine Zs ?_
 refine J1 ?_
 refine Sr (Step.addStr (l2:=[119,114,105,116,101,32]) rfl rfl (by(simp only[List.length_append,List.length_cons,List.length_nil];omega))) ?_
 refine J3 ?_
 refine Sr (Ti (fun w h=>(h.rs ho fun _=>hI _)) rfl rfl (rfl) _ rfl (by omega)) ?_
 refine J1 ?_
 refine Sr (Tc rfl (fun w h=>(h.rs ho fun _=>hI _).cell (by omega) rfl)) ?_
 refine SV.call C141.f C141.b C141.n rfl (rdec_fn (h0.t.ops.getD j roK.d).reg hrj.1) gno rfl ?_
 refine Sr (Step.addStr rfl rfl (by(simp only[List.length_append,List.length_cons,List.length_nil];omega))) ?_
 refine Sr (Step.addStr (l2:=[32]) rfl rfl (by(simp only[List.length_append,List.length_cons,List.length_nil];omega))) ?_
 refine J3 ?_
 refine Sr (Ti (fun w h=>(h.rs ho fun _=>hI _)) rfl rfl (rfl) _ rfl (by omega)) ?_
 refine J1 ?_
 refine Sr (Tc rfl (fun w h=>(h.rs ho fun _=>hI _).cell (by omega) rfl)) ?_
 refine SV.call C141.f C141.b C141.n rfl (rdec_fn (h0.t.ops.getD j roK.d).val hrj.2) gno rfl ?_
 refine Sr (Step.addStr rfl rfl (by(simp only[List.length_append,List.length_cons,List.length_nil];omega))) ?_
 refine J1 ?_
 refine SV.nil ?_
 refine J8 ?_
 refine E1 ?_
 exact KV.loopI (z:=j) (j+1) (by omega) (by omega) ⟨rfl,(by rw[ops_snoc (by omega)];(first|rw[roT_t hw]|rw[roT_f hw]);show some (Value.string (bs _))=some (Value.string (bs _));simp[sWrS,sRdS]),rfl,trivial⟩ (fun _ h=>h)
 have hw:=cc2
 refine J3 ?_
 refine Jr (Step.addStr (l2:=[114,101,97,100,32]) rfl rfl (by(simp only[List.length_append,List.length_cons,List.length_nil];omega))) ?_
 refine J3 ?_
 refine Jr (Ti (fun w h=>(h.rs ho fun _=>hI _)) rfl rfl (rfl) _ rfl (by omega)) ?_
 refine J1 ?_
 refine Jr (Tc rfl (fun w h=>(h.rs ho fun _=>hI _).cell (by omega) rfl)) ?_
 refine RV.op (Yp rfl (rdec_fn (h0.t.ops.getD j roK.d).reg hrj.1) ?_)
 refine Jr (Step.addStr rfl rfl (by(simp only[List.length_append,List.length_cons,List.length_nil];omega))) ?_
 refine J10 ?_
 refine E1 ?_
 exact KV.loopI (z:=j) (j+1) (by omega) (by omega) ⟨rfl,(by rw[ops_snoc (by omega)];(first|rw[roT_t hw]|rw[roT_f hw]);show some (Value.string (bs _))=some (Value.string (bs _));simp[sWrS,sRdS]),rfl,trivial⟩ (fun _ h=>h)
 refine J9 ?_
 obtain rfl:j=h0.t.ops.length:=by omega
 rw[List.take_length]
 have e6:=opsT_len hr.2
 have e8:(hdX h0.t to).length≤300:=by unfold hdX;simp only[List.length_append,sOnS,sArr,List.length_cons,List.length_nil];omega
 refine J2 ?_
 refine Jr (Step.addStr (l2:=[10]) rfl rfl (by(simp only[List.length_append,List.length_cons,List.length_nil];omega))) ?_
 refine J4 ?_
 refine E0 ?_
 exact Rb rfl rfl ⟨by unfold trX hdX;rfl,rfl⟩
theorem st_app (s t:Bs):((s++sStS)++t)++[10]=s++stT t:=by simp[stT]
theorem trX_eq (ss:List Bs) (t:Tr):trX t (ss.getD t.to.toNat strK.d)=trT ss t:=rfl
theorem rformat_fn (d:DH) {w:World} (hd:DR w d) (hrg:rgD d.d):Fx Tryz.prog 57 [.agg #[.string (bs d.name),.slice d.sA d.ss.length d.sc,.slice d.tA d.hs.length d.tc]] w [] no (fun x L=>x= .tuple #[.string (bs (fmtR d.d)),.int .i64 (chkM d.d)]∧L=[]):=by
 refine Fb ?_
 intro I hro hI
 refine J2 ?_
 refine RV.op (Yb #[_,_,_] rfl rfl (fun p=>?_))
 refine Jr (Step.assign (v:= .string (Sv.bs [])) rfl) ?_
 refine J7 ?_
 refine RV.op (Yc [] (F:=[_]) rfl rfl (fun w h=>rcheck_fn d (DR.keep h hd hI)) (fun v L' hp=>?_))
 obtain⟨rfl,rfl⟩:=hp
 refine J6 ?_
 refine Jne rfl rfl (fun hck=>?_) (fun hck=>?_)
 refine J6 ?_
 refine Jr (Step.assign (v:= .string (Sv.bs [])) rfl) ?_
 refine J5 ?_
 refine E0 ?_
 exact Rc rfl rfl rfl ⟨by unfold fmtR;rw[if_neg hck],rfl⟩
 have hck0:=Decidable.not_not.1 hck
 have hok:=ok_of hck0
 have hdl:d.d.ss.length=d.ss.length:=rfl
 have hsl:d.ss.length≤32:=hok.few
 have hnl:d.name.length≤32:=nm_len hok.name
 have htl:d.hs.length≤128:=by rw[←ts_len];exact hok.fewT
 refine J9 ?_
 refine Jr (Step.addStr (l:=[100,114,105,118,101,114,32]) rfl rfl (by(first|omega|(simp only[List.length_append,List.length_cons,List.length_nil];omega)))) ?_
 refine Jr (Step.addStr (l2:=[10]) rfl rfl (by(first|omega|(simp only[List.length_append,List.length_cons,List.length_nil];omega)))) ?_
 refine J10 ?_
 refine E1 ?_
 refine CV.loopI (fun(i:Nat)=>i≤d.ss.length) (fun(i:Nat)=>d.ss.length-i) (fun(i:Nat)=>[(1,.pointer (some ⟨p,0,none⟩)),(5,.string (bs (oT d.d i))),(6,.int .i64 i)]) (fun(i:Nat)=>Hp I w [Blk p (.cells #[.string (bs d.name),.slice d.sA d.ss.length d.sc,.slice d.tA d.hs.length d.tc] 66 (0,0))]) (0) (Nat.zero_le _) ⟨rfl,(by rw[oT_zero];rfl),rfl,trivial⟩ (fun _ h=>h) ?_
 intro i hil
 refine J7 ?_
 refine Jlt rfl rfl (fun hi=>?_) (fun hi=>?_)
 refine J8 ?_
 have hoi:=oT_max hok hrg (i:=i) (by omega)
 have hsn:=nm_len (hok.nms i (by omega))
 have hsn2:(d.ss.getD i strK.d).length≤32:=hsn
 refine J2 ?_
 refine Jr (Step.addStr (l2:=[115,116,97,116,101,32]) rfl rfl (by(first|omega|(simp only[List.length_append,List.length_cons,List.length_nil];omega)))) ?_
 refine J3 ?_
 refine Jr (Ti (fun w h=>(DR.keep h hd hI).s) rfl rfl (by first|rfl|omega) _ rfl (by first|omega|(have q1:=htk.2.2.1;have q2:=htk.2.2.2.1;have q3:d.d.ss.length=d.ss.length:=rfl;omega))) ?_
 refine Jr (Tc rfl (fun w h=>(DR.keep h hd hI).s.cell0 (by omega) rfl)) ?_
 refine Jr (Step.addStr rfl rfl (by(first|omega|(simp only[List.length_append,List.length_cons,List.length_nil];omega)))) ?_
 refine Jr (Step.addStr (l2:=[10]) rfl rfl (by(first|omega|(simp only[List.length_append,List.length_cons,List.length_nil];omega)))) ?_
 refine J9 ?_
 refine E1 ?_
 refine CV.loopI (fun(k:Nat)=>k≤d.hs.length) (fun(k:Nat)=>d.hs.length-k) (fun(k:Nat)=>[(1,.pointer (some ⟨p,0,none⟩)),(5,.string (bs (jT d.d i k))),(6,.int .i64 i),(7,.int .i64 k)]) (fun(k:Nat)=>Hp I w [Blk p (.cells #[.string (bs d.name),.slice d.sA d.ss.length d.sc,.slice d.tA d.hs.length d.tc] 66 (0,0))]) (0) (Nat.zero_le _) ⟨rfl,(by rw[jT_zero];exact congrArg (fun x=>some (Value.string (bs x))) (st_app (oT d.d i) (d.ss.getD i strK.d))),rfl,rfl,trivial⟩ (fun _ h=>h) ?_
 intro k hkl
 refine J7 ?_
 refine Jlt rfl rfl (fun hk=>?_) (fun hk=>?_)
 refine J8 ?_
 have hk2:k<d.hs.length:=by omega
 refine J4 ?_
 refine Jr (Ti (fun w h=>(DR.keep h hd hI).t) rfl rfl (by first|rfl|omega) _ rfl (by first|omega|(have q1:=htk.2.2.1;have q2:=htk.2.2.2.1;have q3:d.d.ss.length=d.ss.length:=rfl;omega))) ?_
 refine J1 ?_
 refine Jr (Tc rfl (fun w h=>(DR.keep h hd hI).t.cell0 (by omega) rfl)) ?_
 refine J1 ?_
 refine Jeq rfl rfl (fun hf=>?_) (fun hf=>?_)
 refine J3 ?_
 have hmem:=ts_mem d hk2
 have hrt:=hrg _ hmem
 have htk:=tr_ok hok hmem
 have hev:=nm_len htk.2.2.2.2.1
 have htg0:=nm_len (tgt_nm hok hmem)
 have htg:(d.ss.getD (d.hs.getD k thK.d).t.to.toNat strK.d).length≤32:=htg0
 have htm:=tr_max hok hrg hmem
 have htm2:(trT d.ss (d.hs.getD k thK.d).t).length≤1000:=htm
 have him:=jT_max hok hrg (i:=i) (k:=k) (by omega)
 refine An (Hp I w [Blk p (.cells #[.string (bs d.name),.slice d.sA d.ss.length d.sc,.slice d.tA d.hs.length d.tc] 66 (0,0))]) 19 ?_
 refine W 0 ?_
 refine W 1 ?_
 refine W 2 ?_
 refine W 3 ?_
 refine Wt 4 rfl (Ti (fun w h=>(DR.keep h hd hI).t) rfl rfl (by first|rfl|omega) _ rfl (by first|omega|(have q1:=htk.2.2.1;have q2:=htk.2.2.2.1;have q3:d.d.ss.length=d.ss.length:=rfl;omega))) ?_
 refine Wt 5 rfl (Tw rfl (fun w h=>(DR.keep h hd hI).t.cells (by omega))) ?_
 refine W 6 ?_
 refine W 7 ?_
 refine W 8 ?_
 refine W 9 ?_
 refine W 10 ?_
 refine Wt 11 rfl (Ti (fun w h=>(DR.keep h hd hI).t) rfl rfl (by first|rfl|omega) _ rfl (by first|omega|(have q1:=htk.2.2.1;have q2:=htk.2.2.2.1;have q3:d.d.ss.length=d.ss.length:=rfl;omega))) ?_
 refine W 12 ?_
 refine Wt 13 rfl (Tc rfl (fun w h=>(DR.keep h hd hI).t.cell (by omega) rfl)) ?_
 refine Wt 14 rfl (Ti (fun w h=>(DR.keep h hd hI).s) rfl rfl (by first|rfl|omega) _ (Int.toNat_of_nonneg htk.2.2.1).symm (by first|omega|(have q1:=htk.2.2.1;have q2:=htk.2.2.2.1;have q3:d.d.ss.length=d.ss.length:=rfl;omega))) ?_
 refine Wt 15 rfl (Tc rfl (fun w h=>(DR.keep h hd hI).s.cell0 (by omega) rfl)) ?_
 refine V1 16 ?_
 refine Yc [] (F:=[_]) rfl rfl (fun w h=>rtransition_fn (d.hs.getD k thK.d) (d.ss.getD (d.hs.getD k thK.d).t.to.toNat strK.d) ((DR.keep h hd hI).o k hk2) hrt htk.2.2.2.2.2.2.1 hev htg) (fun v L' hp=>?_)
 obtain⟨rfl,rfl⟩:=hp
 rw[trX_eq]
 refine Wn ?_
 refine Wt 17 rfl (Step.addStr rfl rfl (by(first|omega|(simp only[List.length_append,List.length_cons,List.length_nil];omega)))) ?_
 refine W 18 ?_
 refine Vd ?_
 refine J8 ?_
 refine E1 ?_
 exact KV.loopI (z:=k) (k+1) (by omega) (by omega) ⟨rfl,(by first|(rw[jT_yes (by rw[ts_len];exact hk2) (by rw[ts_at];exact hf),ts_at];rfl)|(rw[jT_no (by rw[ts_len];exact hk2) (by rw[ts_at];exact hf)];rfl)),rfl,rfl,trivial⟩ (fun _ h=>h)
 refine J12 ?_
 refine E1 ?_
 exact KV.loopI (z:=k) (k+1) (by omega) (by omega) ⟨rfl,(by first|(rw[jT_yes (by rw[ts_len];exact hk2) (by rw[ts_at];exact hf),ts_at];rfl)|(rw[jT_no (by rw[ts_len];exact hk2) (by rw[ts_at];exact hf)];rfl)),rfl,rfl,trivial⟩ (fun _ h=>h)
 refine J15 ?_
 refine E1 ?_
 exact KV.loopI (z:=i) (i+1) (by omega) (by omega) ⟨rfl,(by rw[←jT_end (k:=k) (by rw[ts_len];omega)];rfl),rfl,trivial⟩ (fun _ h=>h)
 refine J9 ?_
 obtain rfl:i=d.ss.length:=by omega
 refine J7 ?_
 refine E0 ?_
 exact Rc rfl rfl rfl ⟨by unfold fmtR;rw[if_pos hck0,hck0,fmt_eq];rfl,rfl⟩
end Go.Proofs.YtkofjhglgoojiaaGreatDoor.Dv
