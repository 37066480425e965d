import Derived.Test.YtooeabibhjbkoaaGreatGaC
import Derived.Test.YtooeabibhjbkoaaGreatGaD
import Derived.Test.YtooeabibhjbkoaaGreatApI
import Derived.Lib.MinMax
import Derived.BigFrame
import Derived.Test.YtooeabibhjbkoaaGreatQrB
import Derived.Test.YtooeabibhjbkoaaGreatBiP
import Derived.Test.YtooeabibhjbkoaaGreatToA
import Derived.Great.BuildSlice
set_option linter.unusedVariables false
set_option linter.unusedSimpArgs false
set_option maxRecDepth 100000
set_option maxHeartbeats 8000000
namespace Go.Proofs.YtooeabibhjbkoaaGreat
open Go.RowKit Big Reg Al Ap Ga
open Lib (hid)
namespace Ga
def scI (x:Rq) (p:Nat):Int:=if (p:Int)=x.value then x.units else ((x.units.toNat*p / x.value.toNat:Nat):Int)
def scaleL (l:List Rq) (ps:List Nat):List Int:=List.zipWith scI l ps
def valsN (l:List Rq):List Nat:=l.map fun x=>x.value.toNat
def CapsP (T:Nat) (ws p:List Nat):Prop:=p.length=ws.length∧((sumL ws≤T∧p=ws)∨(T<sumL ws∧Parts T ws p))
def roomZ (net:Int) (p q:Nat):Int:=(p:Int)*net / (q:Int)
def allowE (net:Int) (n m:Bool) (p q:Nat) (l:List Rq):Option Int :=
  if net < -1000000000000000∨1000000000000000<net then some 33 else if gtB n m p q=false then some 271 else if checkQ l=false then some 270 else if mulQ ((p:Int),q) (net,1)=none then some 10 else if l.length=0 then some 0 else none
def Outs (room:Int) (l:List Rq) (outs:List Int):Prop:=∃ ps,CapsP room.toNat (valsN l) ps∧outs=scaleL l ps
theorem qnS {T:Nat} {ws p:List Nat} (h:CapsP T ws p) {i:Nat} (hi:i<ws.length):p.getD i 0≤ws.getD i 0:=by
  rcases h.2 with ⟨_,rfl⟩|⟨h1,h2⟩
  · exact Nat.le_refl _
  · exact qsD (by omega) h2 h1 hi
theorem qgR {n m:Bool} {p q:Nat} (h:gtB n m p q=true):n=false∧m=false∧0<p∧p≤q∧p<B480∧q<B480∧Nat.gcd p q=1:=by
  unfold gtB at h
  rw [Bool.and_eq_true] at h
  obtain ⟨a1,a2,a3,a4,a5,a6⟩:=of_decide_eq_true h.1
  obtain ⟨b1,b2,b3⟩:=of_decide_eq_true h.2
  exact ⟨b1,a4,b2,b3,a1,a2,a6⟩
def fillT (l:List Int) (k:Nat):List Int:=l.take k++List.replicate (l.length - k) 0
theorem qeV (l:List Int):fillT l 0=List.replicate l.length 0:=by simp [fillT]
theorem qeW (l:List Int):fillT l l.length=l:=by simp [fillT]
theorem qfX (l:List Int) (k:Nat) (h:k≤l.length):(fillT l k).length=l.length:=by simp [fillT];omega
theorem qhH (l:List Int) (k:Nat) (h:k<l.length):(fillT l k)[k]?=some 0:=by
  unfold fillT
  rw [List.getElem?_append_right (by simp;omega),List.getElem?_replicate,if_pos (by simp;omega)]
theorem qeJ (l:List Int) (k:Nat) (x:Int) (h:l[k]?=some x):(fillT l k).set k x=fillT l (k+1):=by
  have hk:=(List.getElem?_eq_some_iff.1 h).1
  unfold fillT
  rw [List.set_append_right _ _ (by simp;omega),List.take_add_one,h,List.append_assoc]
  congr 1
  rw [List.length_take,Nat.min_eq_left (by omega),Nat.sub_self]
  obtain ⟨j,hj⟩:∃ j,l.length - k=j+1:=⟨l.length - k - 1,by omega⟩
  rw [hj,show l.length - (k+1)=j by omega]
  rfl
theorem qhS {N:Int} {D:Nat} {r:Qn} (h:mkQ N D=some r) (hD:D≠0):r.1 / (r.2:Int)=N / (D:Int):=by
  unfold mkQ at h
  split at h
  · injection h with h
    subst h
    have hg:=qdL (N:=N) hD
    have e1:N=(N.sign*((N.natAbs / Nat.gcd N.natAbs D:Nat):Int))*(Nat.gcd N.natAbs D:Int):=by
      rw [Int.mul_assoc,←Int.natCast_mul,Nat.div_mul_cancel (Nat.gcd_dvd_left _ _),Int.sign_mul_natAbs]
    have e2:(D:Int)=((D / Nat.gcd N.natAbs D:Nat):Int)*(Nat.gcd N.natAbs D:Int):=by
      rw [←Int.natCast_mul,Nat.div_mul_cancel (Nat.gcd_dvd_right _ _)]
    conv=>rhs;rw [e1,e2]
    rw [Int.mul_ediv_mul_of_pos_left _ _ (by omega)]
  · cases h
theorem qjF {net:Int} {p q:Nat} (h1:-1000000000000000≤net) (h2:net≤1000000000000000) (hp:p≤q) (hq:0<q):-1000000000000000≤roomZ net p q∧roomZ net p q≤1000000000000000:=by
  unfold roomZ
  have hp0:(0:Int)≤p:=Int.natCast_nonneg p
  have hpq:(p:Int)≤q:=by omega
  constructor
  · rw [Int.le_ediv_iff_mul_le (by omega)]
    by_cases hn:0≤net
    · have:0≤(p:Int)*net:=Int.mul_nonneg hp0 hn
      omega
    · have a:(q:Int)*net≤(p:Int)*net:=Int.mul_le_mul_of_nonpos_right hpq (by omega)
      have b:-1000000000000000*(q:Int)≤net*q:=Int.mul_le_mul_of_nonneg_right h1 (by omega)
      rw [Int.mul_comm net] at b
      omega
  · have a:(p:Int)*net≤(q:Int)*1000000000000000:=by
      by_cases hn:0≤net
      · exact Int.mul_le_mul hpq h2 hn (by omega)
      · have:(p:Int)*net≤0:=Int.mul_nonpos_of_nonneg_of_nonpos hp0 (by omega)
        omega
    have:=Int.ediv_le_ediv (c:=(q:Int)) (by omega) a
    rwa [Int.mul_ediv_cancel_left _ (by omega)] at this
end Ga
theorem qgI {P:Program} {ops:Array Oper} {rest:List Oper} {o:Oper} {a:Act} {w:World} {Q:Exit→Act→World→Prop} (hg:o.guard=none) (x y:Operand) (ats:Array TypeId) (ho:o.op=.call { callee:=.builtin .max,args:=#[x,y],argTypes:=ats })
    (k:IntKind) (X Y:Int) (hx:a.eval x=.int k X) (hy:a.eval y=.int k Y) (h:wpList P ops Q rest (a.put o.dst (.int k (max X Y))) w):wpList P ops Q (o::rest) a w:=by
  refine wpList_plain hg fun K' hK'=>?_
  unfold Oper.wp execOp
  simp [Act.eval] at hx hy
  simp [ho,hx,hy,resolve,invoke,go_sem,BigFrame.builtin_max,Go.Lib.run_max_ints]
  exact hK' _ _ h
theorem qkQ {A:Option Addr} {a b:Nat} {c:Int} (h:a=b):Ending.returned (.tuple #[.slice A a a,.int .i64 c])=.returned (.tuple #[.slice A b b,.int .i64 c]):=by rw [h]
theorem qhX {a b:World} {row:Option Nat} (h:Below a.heap.size a b):a.grownBy b row:=⟨h.os,h.tape,h.output,h.size,fun k hk _=>h.block k hk⟩
theorem At.cell0 {w:World} {b:Nat} {v:Value} {cs:List Value} (h:At w b 0 (v::cs)):w.cell? ⟨b,0,none⟩=some v:=h.cell (j:=0) rfl
theorem qrK (i n cap pcap PB LB pg poff g off:Nat) (p:Nat) (x:Rq) (w:World) (hP:w.cell? ⟨PB,0,none⟩=some (.slice (some ⟨pg,poff,none⟩) n pcap)) (hL:w.cell? ⟨LB,0,none⟩=some (.slice (some ⟨g,off,none⟩) n cap))
    (hp:w.cell? ⟨pg,poff+i,none⟩=some (.int .i64 (p:Int))) (hx:QAt w g (off+i*3) x) (hi:i<n) (hu1:1≤x.units) (hu2:x.units≤1000000000000000) (hv1:0≤x.value) (hv2:x.value≤1000000000000000) (hpv:(p:Int)≤x.value) :
    Calls Tryz.prog 36 #[.int .i64 (i:Int),.pointer (some ⟨PB,0,none⟩),.pointer (some ⟨LB,0,none⟩)] w fun e w'=>e=.returned (.int .i64 (scI x p))∧Below w.heap.size w w':=by
  obtain ⟨c0,c1,c2⟩:=hx
  have hF:=scI.eq_1 x p
  have FR:=hid (Fr.start w)
  have FR0:=hid FR.out.le
  have hiI:(i:Int)<n:=by omega
  by_cases he:(p:Int)=x.value
  · rw [if_pos he] at hF
    have HF:=hid hF
    rw [←he] at c2
    clear hF he hu1 hu2 hv1 hv2 hpv
    go_enter Tryz.func36,Tryz.ntmps36
    go_upto_region 1 with fail
    refine wfn [] [(5,.slice (some ⟨pg,poff,none⟩) n pcap),(6,.int .i64 (i:Int)),(7,.pointer (some ⟨pg,poff+i,none⟩)),(8,.int .i64 (p:Int)),(9,.slice (some ⟨g,off,none⟩) n cap),(10,.int .i64 (i:Int)),(11,.pointer (some ⟨g,off+i*3,none⟩)),(12,.pointer (some ⟨g,off+i*3+2,none⟩)),(13,.int .i64 (p:Int)),(14,.bool true)] _ (by simp only [zz4,zz5,zq];rfl) (by kernel_rfl) (by kernel_rfl) rfl ?_ ?_ ?_ ?_
    · intro W' hW'
      have k0:=qcU hP hW'
      have k1:=qcU hp hW'
      have k2:=qcU hL hW'
      have k3:=qcU c2 hW'
      refine fxo (wcg (by rfl) rfl rfl (fun W h=>by simp [loadVar,h,go_sem]) k0 (wqn (by simp only [zq]))) ?_
      iterate 2 (refine fxo ?_ ?_;(go_big_quiet_step (fail);(try simp only [zq]);exact wqn rfl))
      refine fxo (wcg (by rfl) rfl rfl (fun W h=>by simp [loadVar,h,go_sem]) k1 (wqn (by simp only [zq]))) ?_
      refine fxo (wcg (by rfl) rfl rfl (fun W h=>by simp [loadVar,h,go_sem]) k2 (wqn (by simp only [zq]))) ?_
      iterate 3 (refine fxo ?_ ?_;(go_big_quiet_step (fail);(try simp only [zq]);exact wqn rfl))
      refine fxo (wcg (by rfl) rfl rfl (fun W h=>by simp [loadVar,h,go_sem]) k3 (wqn (by simp only [zq]))) ?_
      refine fxo ?_ ?_;(go_big_quiet_step (fail);(try simp only [zq]);exact wqn rfl)
      exact fxn
    · exact oN
    · exact oN
    intro β wx1 E
    replace FR:=hid (FR.out.fnw E rfl)
    have hE:=E.below rfl
    simp only [nP,zr,zq]
    replace FR0:=hid FR.out.le
    clear E
    have c1:=qcU c1 FR.out.below
    have hL:=qcU hL FR.out.below
    go_wp2
    go_ret
    exact ⟨qaT HF.out.symm,FR.out.below⟩
  · rw [if_neg he] at hF
    have hne:((p:Int)==x.value)=false:=beq_eq_false_iff_ne.2 he
    obtain ⟨U,hU⟩:∃ U:Nat,x.units=U:=⟨x.units.toNat,by omega⟩
    obtain ⟨V,hV⟩:∃ V:Nat,x.value=V:=⟨x.value.toNat,by omega⟩
    rw [hU] at c1 hF hu1 hu2
    rw [hV] at c2 hne hF hv1 hv2 hpv he
    have HSH:=hid (fun W=>(qqI U p V W (by omega) (by omega) (by omega) (by omega)).mono (fun e w' ⟨h1,n,h2⟩=>(⟨h1,by rw [h2];exact below_drewN (Below.refl _ _) _⟩:e=Ending.returned (.int .i64 ((U*p / V:Nat):Int))∧Below W.heap.size W w')))
    have HF:=hid (show scI x p=((U*p / V:Nat):Int) from hF)
    clear hF he hu1 hu2 hv1 hv2 hpv hU hV
    obtain ⟨S,hS⟩:∃ S,S=U*p / V:=⟨_,rfl⟩
    rw [←hS] at HSH HF
    clear hS
    go_enter Tryz.func36,Tryz.ntmps36
    go_upto_region 1 with fail
    refine wfn [] [(5,.slice (some ⟨pg,poff,none⟩) n pcap),(6,.int .i64 (i:Int)),(7,.pointer (some ⟨pg,poff+i,none⟩)),(8,.int .i64 (p:Int)),(9,.slice (some ⟨g,off,none⟩) n cap),(10,.int .i64 (i:Int)),(11,.pointer (some ⟨g,off+i*3,none⟩)),(12,.pointer (some ⟨g,off+i*3+2,none⟩)),(13,.int .i64 (V:Int)),(14,.bool false)] _ (by simp only [zz4,zz5,zq];rfl) (by kernel_rfl) (by kernel_rfl) rfl ?_ ?_ ?_ ?_
    · intro W' hW'
      have k0:=qcU hP hW'
      have k1:=qcU hp hW'
      have k2:=qcU hL hW'
      have k3:=qcU c2 hW'
      refine fxo (wcg (by rfl) rfl rfl (fun W h=>by simp [loadVar,h,go_sem]) k0 (wqn (by simp only [zq]))) ?_
      iterate 2 (refine fxo ?_ ?_;(go_big_quiet_step (fail);(try simp only [zq]);exact wqn rfl))
      refine fxo (wcg (by rfl) rfl rfl (fun W h=>by simp [loadVar,h,go_sem]) k1 (wqn (by simp only [zq]))) ?_
      refine fxo (wcg (by rfl) rfl rfl (fun W h=>by simp [loadVar,h,go_sem]) k2 (wqn (by simp only [zq]))) ?_
      iterate 3 (refine fxo ?_ ?_;(go_big_quiet_step (fail);(try simp only [zq]);exact wqn rfl))
      refine fxo (wcg (by rfl) rfl rfl (fun W h=>by simp [loadVar,h,go_sem]) k3 (wqn (by simp only [zq]))) ?_
      refine fxo ?_ ?_;(go_big_quiet_step (fail);(try simp only [zq]);exact wqn rfl)
      exact fxn
    · exact oN
    · exact oN
    intro β wx1 E
    replace FR:=hid (FR.out.fnw E rfl)
    have hE:=E.below rfl
    simp only [nP,zr,zq]
    replace FR0:=hid FR.out.le
    clear E
    go_upto_region 3 with fail
    refine wfn [] [(20,.slice (some ⟨g,off,none⟩) n cap),(21,.int .i64 (i:Int)),(22,.pointer (some ⟨g,off+i*3,none⟩)),(23,.pointer (some ⟨g,off+i*3+1,none⟩)),(24,.int .i64 (U:Int)),(25,.slice (some ⟨pg,poff,none⟩) n pcap),(26,.int .i64 (i:Int)),(27,.pointer (some ⟨pg,poff+i,none⟩)),(28,.int .i64 (p:Int)),(29,.slice (some ⟨g,off,none⟩) n cap),(30,.int .i64 (i:Int)),(31,.pointer (some ⟨g,off+i*3,none⟩)),(32,.pointer (some ⟨g,off+i*3+2,none⟩)),(33,.int .i64 (V:Int)),(34,.int .i64 (S:Int)),(4,.int .i64 (S:Int))] _ (by simp only [zz4,zz5,zq];rfl) (by kernel_rfl) (by kernel_rfl) rfl ?_ ?_ ?_ ?_
    · intro W' hW'
      have hbq:=FR.out.below.trans (hW'.mono FR.out.le)
      have k0:=qcU hP hbq
      have k1:=qcU hp hbq
      have k2:=qcU hL hbq
      have k3:=qcU c2 hbq
      have k4:=qcU c1 hbq
      refine fxo (wcg (by rfl) rfl rfl (fun W h=>by simp [loadVar,h,go_sem]) k2 (wqn (by simp only [zq]))) ?_
      iterate 3 (refine fxo ?_ ?_;(go_big_quiet_step (fail);(try simp only [zq]);exact wqn rfl))
      refine fxo (wcg (by rfl) rfl rfl (fun W h=>by simp [loadVar,h,go_sem]) k4 (wqn (by simp only [zq]))) ?_
      refine fxo (wcg (by rfl) rfl rfl (fun W h=>by simp [loadVar,h,go_sem]) k0 (wqn (by simp only [zq]))) ?_
      iterate 2 (refine fxo ?_ ?_;(go_big_quiet_step (fail);(try simp only [zq]);exact wqn rfl))
      refine fxo (wcg (by rfl) rfl rfl (fun W h=>by simp [loadVar,h,go_sem]) k1 (wqn (by simp only [zq]))) ?_
      refine fxo (wcg (by rfl) rfl rfl (fun W h=>by simp [loadVar,h,go_sem]) k2 (wqn (by simp only [zq]))) ?_
      iterate 3 (refine fxo ?_ ?_;(go_big_quiet_step (fail);(try simp only [zq]);exact wqn rfl))
      refine fxo (wcg (by rfl) rfl rfl (fun W h=>by simp [loadVar,h,go_sem]) k3 (wqn (by simp only [zq]))) ?_
      refine fxo ?_ ?_;(go_big_quiet_step ((go_at_call 37;exact qaA (HSH.out _)));(try simp only [zq]);exact wqn rfl)
      refine fxo ?_ ?_;(go_big_quiet_step (fail);(try simp only [zq]);exact wqn rfl)
      exact fxn
    · exact oN
    · exact oN
    intro β wx2 E
    replace FR:=hid (FR.out.fnw E rfl)
    have hE:=E.below rfl
    simp only [nP,zr,zq]
    replace FR0:=hid FR.out.le
    clear E
    go_wp2
    go_ret
    exact ⟨qaT HF.out.symm,FR.out.below⟩
def AllowP (net:Int) (n m:Bool) (p q:Nat) (l:List Rq) (w:World) (e:Ending) (w':World):Prop:=Below w.heap.size w w' ∧
  ((∃ code,allowE net n m p q l=some code∧e=.returned (.tuple #[.slice none 0 0,.int .i64 code])) ∨
   (allowE net n m p q l=none∧∃ g outs,e=.returned (.tuple #[.slice (some ⟨g,0,none⟩) l.length l.length,.int .i64 0])∧w.heap.size≤g∧g<w'.heap.size∧Row w' g 0 outs∧Outs (roomZ net p q) l outs))
theorem qmU (net:Int) {cr:List Value} {gn gm:Bool} {p q:Nat} (hcr:cr=rat gn p gm q) (hp:p<BB^32) (hq:q<BB^32) (v:Value) (l:List Rq) (w:World) (h:RqsAt w v l) (hl:l.length≤19∨64<l.length) :
    Calls Tryz.prog 10 #[.int .i64 net,.agg cr.toArray,v] w (AllowP net gn gm p q l w):=by
  have hAE:=allowE.eq_1 net gn gm p q l
  obtain ⟨A,cap,hv⟩:=Rd.form h
  have hmx:=h.2.1
  obtain ⟨n,hn⟩:∃ n,n=l.length:=⟨_,rfl⟩
  rw [←hn] at hv hl hAE hmx
  have HN:=hid hn
  have V_cr:=hid hcr
  have HR:=hid h
  obtain ⟨G,hG⟩:∃ G,G=gtB gn gm p q:=⟨_,rfl⟩
  have HOP:=hid (qvK hcr hp hq)
  rw [←hG] at HOP hAE
  have HG:=hid hG
  clear h hcr hp hq hG hn
  obtain ⟨B0,hB0⟩:∃ B,B=w.heap.size:=⟨_,rfl⟩
  obtain ⟨B1,hB1⟩:∃ B,B=w.heap.size+1:=⟨_,rfl⟩
  obtain ⟨w0,hw0⟩:∃ w0,w0=((w.alloc (.cells cr.toArray 27)).alloc (.cells #[v] 28)):=⟨_,rfl⟩
  have AB0:=hid (show At w0 B0 0 cr by rw [hw0];exact ((show At (w.alloc (.cells cr.toArray 27)) B0 0 cr from At.fresh _ cr _ (by simp [hB0])).alloc _))
  have hb1:(w.alloc (.cells cr.toArray 27)).heap.size=B1:=by rw [hB1];simp
  have ab1:At w0 B1 0 [v]:=by rw [hw0];exact At.fresh _ [v] _ hb1.symm
  have FR:=hid (show Fr B0 w w0 by rw [hw0,hB0];exact ((Fr.start w).alloc _).alloc _)
  have FR0:=hid FR.out.le
  have hZB0:B0≤B0:=Nat.le_refl _
  have l01:B0<B1:=by omega
  have HB0:=hid hB0
  subst hv
  have AB1:=hid ab1
  clear hb1 ab1
  by_cases hr:net < -1000000000000000∨1000000000000000<net
  · have HE:=hid (show allowE net gn gm p q l=some 33 by rw [hAE,if_pos hr])
    clear hAE hl
    go_enter Tryz.func10,Tryz.ntmps10
    by_cases hr1:net < -1000000000000000
    · clear hr
      go_wp2
      go_ret2
      exact ⟨by rw [hw0] at FR;rw [HB0.out] at FR;exact FR.out.below,.inl ⟨_,HE.out,rfl⟩⟩
    · have hr2:1000000000000000<net:=by omega
      clear hr
      go_wp2
      go_ret2
      exact ⟨by rw [hw0] at FR;rw [HB0.out] at FR;exact FR.out.below,.inl ⟨_,HE.out,rfl⟩⟩
  have n1:¬net < -1000000000000000:=by omega
  have n2:¬1000000000000000<net:=by omega
  rw [if_neg hr] at hAE
  clear hr
  go_enter Tryz.func10,Tryz.ntmps10
  go_upto_region 3 with fail
  rw [←hw0,←hB1,←hB0]
  clear hw0 hB0 hB1
  have HNB:=hid (And.intro n1 n2)
  clear n1 n2
  cases G with
  | false =>
    have HE:=hid (show allowE net gn gm p q l=some 271 by rw [hAE,if_pos rfl])
    clear hAE hl
    refine wfn [] [(27,.agg cr.toArray),(28,.bool false),(29,.bool true),(26,.bool true)] _ (by simp only [zz4,zz5,zq];rfl) (by kernel_rfl) (by kernel_rfl) rfl ?_ ?_ ?_ ?_
    · intro W' hW'
      have rd0:=AB0.out.below hW'
      refine fxo (wlg (by rfl) rfl rfl rd0 Tryz.underlying27 rfl (qR V_cr.out) (wqn (by simp only [zq]))) ?_
      refine fxo ?_ ?_;(go_big_quiet_step ((go_at_call 30;exact qaA (HOP.out _)));(try simp only [zq]);exact wqn rfl)
      iterate 2 (refine fxo ?_ ?_;(go_big_quiet_step (fail);(try simp only [zq]);exact wqn rfl))
      exact fxn
    · exact oN
    · exact oN
    intro β wx1 E
    replace FR:=hid (FR.out.fnw E rfl)
    replace AB0:=hid (AB0.out.fnw E rfl)
    replace AB1:=hid (AB1.out.fnw E rfl)
    have hE:=E.below rfl
    simp only [nP,zr,zq]
    replace FR0:=hid FR.out.le
    clear E
    go_wp2
    go_ret2
    exact ⟨by rw [HB0.out] at FR;exact FR.out.below,.inl ⟨_,HE.out,rfl⟩⟩
  | true =>
    rw [if_neg (by simp)] at hAE
    have hgp:=qgR HG.out.symm
    refine wfn [] [(27,.agg cr.toArray),(28,.bool true),(29,.bool false),(26,.bool false)] _ (by simp only [zz4,zz5,zq];rfl) (by kernel_rfl) (by kernel_rfl) rfl ?_ ?_ ?_ ?_
    · intro W' hW'
      have rd0:=AB0.out.below hW'
      refine fxo (wlg (by rfl) rfl rfl rd0 Tryz.underlying27 rfl (qR V_cr.out) (wqn (by simp only [zq]))) ?_
      refine fxo ?_ ?_;(go_big_quiet_step ((go_at_call 30;exact qaA (HOP.out _)));(try simp only [zq]);exact wqn rfl)
      iterate 2 (refine fxo ?_ ?_;(go_big_quiet_step (fail);(try simp only [zq]);exact wqn rfl))
      exact fxn
    · exact oN
    · exact oN
    intro β wx1 E
    replace FR:=hid (FR.out.fnw E rfl)
    replace AB0:=hid (AB0.out.fnw E rfl)
    replace AB1:=hid (AB1.out.fnw E rfl)
    have hE:=E.below rfl
    simp only [nP,zr,zq]
    replace FR0:=hid FR.out.le
    clear E
    go_upto_region 5 with fail
    have HRW:=hid (HR.out.below (show Below w.heap.size w wx1 by have:=FR.out.below;rwa [HB0.out] at this))
    cases hck:checkQ l with
    | false =>
      have HE:=hid (show allowE net gn gm p q l=some 270 by rw [hAE,if_pos hck])
      have HCK:=hid (fun W (hb:RqsAt W (.slice A n cap) l)=>(show Calls Tryz.prog 31 #[.slice A n cap] W (fun e w'=>e=.returned (.int .i64 270)∧Below W.heap.size W w') by have:=qiO _ l W hb;rw [hck] at this;exact this))
      clear hAE hl hgp hck
      refine wfn [] [(30,.slice A n cap),(31,.int .i64 270),(8,.int .i64 270)] _ (by simp only [zz4,zz5,zq];rfl) (by kernel_rfl) (by kernel_rfl) rfl ?_ ?_ ?_ ?_
      · intro W' hW'
        have c1:=(AB1.out.below hW').cell0
        refine fxo (wcg (by rfl) rfl rfl (fun W h=>by simp [loadVar,h,go_sem]) c1 (wqn (by simp only [zq]))) ?_
        refine fxo ?_ ?_;(go_big_quiet_step ((go_at_call 31;exact qaA (HCK.out _ ((HRW.out.below hW').below (qbG _ _ _)))));(try simp only [zq]);exact wqn rfl)
        refine fxo ?_ ?_;(go_big_quiet_step (fail);(try simp only [zq]);exact wqn rfl)
        exact fxn
      · exact oN
      · exact oN
      intro β wx2 E
      replace FR:=hid (FR.out.fnw E rfl)
      replace AB0:=hid (AB0.out.fnw E rfl)
      replace AB1:=hid (AB1.out.fnw E rfl)
      have hE:=E.below rfl
      simp only [nP,zr,zq]
      replace FR0:=hid FR.out.le
      clear E
      go_wp2
      go_ret2
      exact ⟨by rw [HB0.out] at FR;exact FR.out.below,.inl ⟨_,HE.out,rfl⟩⟩
    | true =>
      have hmem:=fun x hx=>qmN (x:=x) hck hx
      have hn19:n≤19:=by have:=qmO hck;rw [←HN.out] at this;omega
      have HCK:=hid (fun W (hb:RqsAt W (.slice A n cap) l)=>(show Calls Tryz.prog 31 #[.slice A n cap] W (fun e w'=>e=.returned (.int .i64 0)∧Below W.heap.size W w') by have:=qiO _ l W hb;rw [hck] at this;exact this))
      rw [if_neg (by rw [hck];simp)] at hAE
      have HMEM:=hid hmem
      clear hl hck hmem
      refine wfn [] [(30,.slice A n cap),(31,.int .i64 0),(8,.int .i64 0)] _ (by simp only [zz4,zz5,zq];rfl) (by kernel_rfl) (by kernel_rfl) rfl ?_ ?_ ?_ ?_
      · intro W' hW'
        have c1:=(AB1.out.below hW').cell0
        refine fxo (wcg (by rfl) rfl rfl (fun W h=>by simp [loadVar,h,go_sem]) c1 (wqn (by simp only [zq]))) ?_
        refine fxo ?_ ?_;(go_big_quiet_step ((go_at_call 31;exact qaA (HCK.out _ ((HRW.out.below hW').below (qbG _ _ _)))));(try simp only [zq]);exact wqn rfl)
        refine fxo ?_ ?_;(go_big_quiet_step (fail);(try simp only [zq]);exact wqn rfl)
        exact fxn
      · exact oN
      · exact oN
      intro β wx2 E
      replace FR:=hid (FR.out.fnw E rfl)
      replace AB0:=hid (AB0.out.fnw E rfl)
      replace AB1:=hid (AB1.out.fnw E rfl)
      have hE:=E.below rfl
      simp only [nP,zr,zq]
      replace FR0:=hid FR.out.le
      clear E
      go_upto_region 8 with fail
      have hpq:cr=ratZ (p:Int) q:=by rw [V_cr.out,hgp.1,hgp.2.1];unfold ratZ;rw [Int.natAbs_natCast,decide_eq_false (Int.not_lt.2 (Int.natCast_nonneg _))]
      have hVP:VQ ((p:Int),q):=⟨by rw [Int.natAbs_natCast];exact hgp.2.2.2.2.1,hgp.2.2.2.2.2.1,by have:=hgp.2.2.1;have:=hgp.2.2.2.1;show q≠0;omega,by rw [Int.natAbs_natCast];exact hgp.2.2.2.2.2.2⟩
      have hnb:net.natAbs<B480:=by
        have h1:=HNB.out
        have h2:(1000000000000001:Nat)≤B480:=by unfold B480 BB;decide
        omega
      have hVN:VQ (net,1):=⟨hnb,by show (1:Nat)<B480;exact Nat.one_lt_pow (by decide) (by unfold BB;decide),Nat.one_ne_zero,by simp⟩
      obtain ⟨cw,V_cw⟩:∃ c:List Value,Hid (c=rat (decide (net<0)) net.natAbs false 1):=⟨_,hid rfl⟩
      have HWH:=hid (qrX (cr:=cw) (z:=net) V_cw.out (by have:=HNB.out;omega) (by have:=HNB.out;omega))
      have HML:=fun (cR:List Value) (code:Int) (h1:cR=resR (mulQ ((p:Int),q) (net,1))) (h2:code=resE (mulQ ((p:Int),q) (net,1)))=>pmulQ (a:=((p:Int),q)) (b:=(net,1)) hpq V_cw.out hVP hVN h1 h2
      have hqpos:0<q:=by have:=hgp.2.2.1;have:=hgp.2.2.2.1;omega
      have hpleq:=hgp.2.2.2.1
      clear hpq hVP hVN hnb hgp
      cases hm:mulQ ((p:Int),q) (net,1) with
      | none =>
        have HE:=hid (show allowE net gn gm p q l=some 10 by rw [hAE,if_pos hm])
        obtain ⟨cR,V_cR⟩:∃ c:List Value,Hid (c=rat false 0 false 0):=⟨_,hid rfl⟩
        have HMU:=hid (HML cR 10 (by rw [V_cR.out,hm];rfl) (by rw [hm];rfl))
        clear hAE HML hm hqpos hpleq
        refine wfn [⟨true,7,9,8,0,0,27,40,cR,0,cR,[]⟩] [(36,.agg cr.toArray),(37,.int .i64 net),(38,.agg cw.toArray),(39,.tuple #[.agg cR.toArray,.int .i64 10]),(35,.tuple #[.agg cR.toArray,.int .i64 10]),(40,.agg cR.toArray),(41,.int .i64 10),(10,.int .i64 10)] _ (by simp only [zz4,zz5,zq];rfl) (by kernel_rfl) (by kernel_rfl) rfl ?_ ?_ ?_ ?_
        · intro W' hW'
          have rd0:=AB0.out.below hW'
          refine fxo (wlg (by rfl) rfl rfl rd0 Tryz.underlying27 rfl (qR V_cr.out) (wqn (by simp only [zq]))) ?_
          refine fxo ?_ ?_;(go_big_quiet_step (fail);(try simp only [zq]);exact wqn rfl)
          refine fxo ?_ ?_;(go_big_quiet_step ((go_at_call 33;exact qaA (HWH.out _)));(try simp only [zq]);exact wqn rfl)
          refine fxo ?_ ?_;(go_big_quiet_step ((go_at_call 32;exact qaA (HMU.out _)));(try simp only [zq]);exact wqn rfl)
          iterate 3 (refine fxo ?_ ?_;(go_big_quiet_step (fail);(try simp only [zq]);exact wqn rfl))
          iterate 2 (refine fxs (by rfl) ?_)
          refine fxo ?_ ?_;(go_big_quiet_step (fail);(try simp only [zq]);exact wqn rfl)
          exact fxn
        · exact oP _ _ (Tryz.alR (qR V_cR.out)) (oN)
        · exact oP _ _ (stw rfl (qR V_cR.out) (qhE V_cR.out) (fun _=>rfl)) (oN)
        intro β wx3 E
        replace FR:=hid (FR.out.fnw E rfl)
        obtain ⟨b9,hb9⟩:∃ b,b=β 7:=⟨_,rfl⟩
        have eb9:=E.atNew mms rfl
        simp only at eb9
        rw [←hb9] at eb9
        have lB0_b9:B0<b9:=by have h1:=eb9.1;have h2:=AB0.out.lt;omega
        have lB1_b9:B1<b9:=by have h1:=eb9.1;have h2:=AB1.out.lt;omega
        have hZb9:B0≤b9:=by have h1:=eb9.1;have h2:=FR0.out;omega
        replace AB0:=hid (AB0.out.fnw E rfl)
        replace AB1:=hid (AB1.out.fnw E rfl)
        have Ab9:=hid eb9.2
        simp only [nP,zr,zq]
        rw [←hb9]
        replace FR0:=hid FR.out.le
        clear E eb9 hb9
        go_wp2
        go_ret2
        exact ⟨by rw [HB0.out] at FR;exact FR.out.below,.inl ⟨_,HE.out,rfl⟩⟩
      | some r =>
        rw [if_neg (by rw [hm];simp)] at hAE
        obtain ⟨cR,V_cR⟩:∃ c:List Value,Hid (c=rat (decide (r.1<0)) r.1.natAbs false r.2):=⟨_,hid rfl⟩
        have HMU:=hid (HML cR 0 (by rw [V_cR.out,hm];rfl) (by rw [hm];rfl))
        obtain ⟨room,hroom⟩:∃ z,z=roomZ net p q:=⟨_,rfl⟩
        have hVR:VQ r:=qbS (N:=(p:Int)*net) (D:=q*1) (by omega) hm
        have hbd:=qjF (net:=net) (p:=p) (q:=q) (by have:=HNB.out;omega) (by have:=HNB.out;omega) hpleq hqpos
        rw [←hroom] at hbd
        have HRI:=hid (qpW (cr:=cR) (r:=r) (n:=room) V_cR.out hVR (by rw [hroom,qhS (N:=(p:Int)*net) (D:=q*1) hm (by omega),Nat.mul_one];rfl) hbd.1 hbd.2)
        have HRO:=hid hroom
        clear HML hm hqpos hpleq hroom hVR
        refine wfn [⟨true,7,9,8,0,0,27,40,cR,0,cR,[]⟩] [(36,.agg cr.toArray),(37,.int .i64 net),(38,.agg cw.toArray),(39,.tuple #[.agg cR.toArray,.int .i64 0]),(35,.tuple #[.agg cR.toArray,.int .i64 0]),(40,.agg cR.toArray),(41,.int .i64 0),(10,.int .i64 0)] _ (by simp only [zz4,zz5,zq];rfl) (by kernel_rfl) (by kernel_rfl) rfl ?_ ?_ ?_ ?_
        · intro W' hW'
          have rd0:=AB0.out.below hW'
          refine fxo (wlg (by rfl) rfl rfl rd0 Tryz.underlying27 rfl (qR V_cr.out) (wqn (by simp only [zq]))) ?_
          refine fxo ?_ ?_;(go_big_quiet_step (fail);(try simp only [zq]);exact wqn rfl)
          refine fxo ?_ ?_;(go_big_quiet_step ((go_at_call 33;exact qaA (HWH.out _)));(try simp only [zq]);exact wqn rfl)
          refine fxo ?_ ?_;(go_big_quiet_step ((go_at_call 32;exact qaA (HMU.out _)));(try simp only [zq]);exact wqn rfl)
          iterate 3 (refine fxo ?_ ?_;(go_big_quiet_step (fail);(try simp only [zq]);exact wqn rfl))
          iterate 2 (refine fxs (by rfl) ?_)
          refine fxo ?_ ?_;(go_big_quiet_step (fail);(try simp only [zq]);exact wqn rfl)
          exact fxn
        · exact oP _ _ (Tryz.alR (qR V_cR.out)) (oN)
        · exact oP _ _ (stw rfl (qR V_cR.out) (qhE V_cR.out) (fun _=>rfl)) (oN)
        intro β wx3 E
        replace FR:=hid (FR.out.fnw E rfl)
        obtain ⟨b9,hb9⟩:∃ b,b=β 7:=⟨_,rfl⟩
        have eb9:=E.atNew mms rfl
        simp only at eb9
        rw [←hb9] at eb9
        have lB0_b9:B0<b9:=by have h1:=eb9.1;have h2:=AB0.out.lt;omega
        have lB1_b9:B1<b9:=by have h1:=eb9.1;have h2:=AB1.out.lt;omega
        have hZb9:B0≤b9:=by have h1:=eb9.1;have h2:=FR0.out;omega
        replace AB0:=hid (AB0.out.fnw E rfl)
        replace AB1:=hid (AB1.out.fnw E rfl)
        have Ab9:=hid eb9.2
        simp only [nP,zr,zq]
        rw [←hb9]
        replace FR0:=hid FR.out.le
        clear E eb9 hb9
        go_upto_region 11 with fail
        refine wfn [] [(46,.agg cR.toArray),(47,.tuple #[.int .i64 room,.int .i64 0]),(45,.tuple #[.int .i64 room,.int .i64 0]),(48,.int .i64 room),(49,.int .i64 0),(11,.int .i64 room),(10,.int .i64 0)] _ (by simp only [zz4,zz5,zq];rfl) (by kernel_rfl) (by kernel_rfl) rfl ?_ ?_ ?_ ?_
        · intro W' hW'
          have rd0:=Ab9.out.below hW'
          refine fxo (wlg (by rfl) rfl rfl rd0 Tryz.underlying27 rfl (qR V_cR.out) (wqn (by simp only [zq]))) ?_
          refine fxo ?_ ?_;(go_big_quiet_step ((go_at_call 34;exact qaA (HRI.out _)));(try simp only [zq]);exact wqn rfl)
          iterate 5 (refine fxo ?_ ?_;(go_big_quiet_step (fail);(try simp only [zq]);exact wqn rfl))
          exact fxn
        · exact oN
        · exact oN
        intro β wx4 E
        replace FR:=hid (FR.out.fnw E rfl)
        clear AB0
        replace AB1:=hid (AB1.out.fnw E rfl)
        clear Ab9
        have hE:=E.below rfl
        simp only [nP,zr,zq]
        replace FR0:=hid FR.out.le
        clear E
        have c1:=AB1.out.cell0
        by_cases hn0:n=0
        · have HE:=hid (show allowE net gn gm p q l=some 0 by rw [hAE,if_pos hn0])
          subst hn0
          clear hAE
          go_wp2
          go_ret2
          exact ⟨by rw [HB0.out] at FR;exact FR.out.below,.inl ⟨_,HE.out,rfl⟩⟩
        have HE:=hid (show allowE net gn gm p q l=none by rw [hAE,if_neg hn0])
        clear hAE
        have hnz:((n:Int)==0)=false:=beq_eq_false_iff_ne.2 (by omega)
        obtain ⟨g,off,cap',hsl,hc⟩:=qfS HR.out (by rw [←HN.out];omega)
        rw [←HN.out] at hsl
        injection hsl with e1 _ e2
        subst e1
        subst e2
        have hglt:=qoK hc (by rw [←HN.out];omega)
        have HC:=hid hc
        have hmk:=run_make_row' (P:=Tryz.prog) 30 3 (.int .i64 0) 8 Tryz.underlying30 Tryz.info3 rfl .i64 .i64 n (by omega) (by omega)
        clear hc
        obtain ⟨vs,hvs⟩:∃ vs:List Int,vs=l.map Rq.value:=⟨_,rfl⟩
        have hvl:vs.length=n:=by rw [hvs,List.length_map,HN.out]
        have HVS:=hid hvs
        clear hvs
        obtain ⟨V,hV⟩:∃ V,V=wx4.heap.size:=⟨_,rfl⟩
        have HV:=hid hV
        go_upto_region 17 with fail
        rw [←hV]
        obtain ⟨wa,hwa⟩:∃ wa,wa=wx4.alloc (.cells (madeCells #[.int .i64 0] n) 3):=⟨_,rfl⟩
        rw [←hwa]
        have hrow:Row wa V 0 (fillT vs 0):=by rw [qeV,hvl,hwa];exact qaX _ _ _ _ hV
        have hbw:Below wx4.heap.size wx4 wa:=by rw [hwa];exact (Below.refl _ _).alloc (Nat.le_refl _) _
        have hVlt:V<wa.heap.size:=by rw [hwa,hV];simp
        have HA1:=hid (AB1.out.below hbw)
        have HFA:=hid (FR.out.step hbw)
        have lB1V:B1<V:=by rw [hV];exact AB1.out.lt
        have hgV:g<V:=by rw [hV];have:=FR0.out;have:=HB0.out;omega
        have HROW:=hid hrow
        have c1:=HA1.out.cell0
        clear hV hwa hrow hbw
        go_wp2
        go_loopg [13,14,61] n (fun m _ _ iv wr=>∃ k:Nat,iv=.int .i64 k∧k≤n∧n≤m+k∧Row wr V 0 (fillT vs k)∧wa.grownBy wr (some V))
        case atStart=>exact ⟨0,rfl,by omega,by omega,HROW.out,qbX _ _⟩
        case round =>
          obtain ⟨k,rfl,hk,hm,hrw,hgb⟩:=hrel
          have HG2:=hid hgb
          have HRW2:=hid hrw
          have d1:wr.cell? ⟨B1,0,none⟩=some (.slice (some ⟨g,off,none⟩) n cap):=hgb.cell c1 (by simp;omega)
          by_cases hkn:k<n
          · obtain ⟨x,hx⟩:∃ x,l[k]?=some x:=⟨l[k]'(by rw [←HN.out];exact hkn),by simp [←HN.out,hkn]⟩
            have hq:QAt wa g (off+k*3) x:=(HC.out k x hx).below (show Below w.heap.size w wa by have:=HFA.out.below;rwa [HB0.out] at this)
            have c0:wr.cell? ⟨g,off+k*3,none⟩=some (.string x.key):=hgb.cell hq.1 (by simp;omega)
            have c2:wr.cell? ⟨g,off+k*3+1,none⟩=some (.int .i64 x.units):=hgb.cell hq.2.1 (by simp;omega)
            have c3:wr.cell? ⟨g,off+k*3+2,none⟩=some (.int .i64 x.value):=hgb.cell hq.2.2 (by simp;omega)
            have cv:wr.cell? ⟨V,k,none⟩=some (.int .i64 0):=by have:=hrw.1 k 0 (qhH vs k (by omega));simpa using this
            have fv:=hrw.2
            have hvx:vs[k]?=some x.value:=by rw [HVS.out,List.getElem?_map,hx];rfl
            have HVX:=hid hvx
            have hVr:V<wr.heap.size:=Nat.lt_of_lt_of_le hVlt hgb.size
            clear hx hq hvx hrw hgb
            go_wp2
            go_roundg (gk - 1)
            case measure=>omega
            case rel =>
              refine ⟨k+1,by go_num,by omega,by omega,?_,?_⟩
              · have h:=HRW2.out.set0 k x.value
                rw [qeJ vs k x.value HVX.out] at h
                exact h.alloc _ (by simpa [World.setCell] using hVr)
              · exact gBt HG2.out (gBt (qaP _ rfl _) (World.grownBy_alloc _ _ _))
          · have hkn:k=n:=by omega
            subst hkn
            rw [←hvl,qeW] at HRW2
            obtain ⟨wz,hwz⟩:∃ wz,wz=wr:=⟨_,rfl⟩
            subst hwz
            obtain ⟨ws,hws⟩:∃ ws,ws=valsN l:=⟨_,rfl⟩
            have hwl:ws.length=k:=by rw [hws,valsN,List.length_map,HN.out]
            have hvw:vs=ws.map Int.ofNat:=by
              rw [hws,HVS.out,valsN,List.map_map]
              refine List.map_congr_left fun x hx=>?_
              have:=HMEM.out x hx
              show x.value=Int.ofNat x.value.toNat
              rw [Int.ofNat_eq_natCast,Int.toNat_of_nonneg (by omega)]
            have hVr:V<wz.heap.size:=Nat.lt_of_lt_of_le hVlt hgb.size
            have hVA:Valid wz (.slice (some ⟨V,0,none⟩) k k) k ws:=⟨qiI (by rw [←hvw];exact HRW2.out) hwl (by omega),hwl,by omega,hn19,fun x hx=>by
              rw [hws] at hx
              obtain ⟨y,hy,rfl⟩:=List.mem_map.1 hx
              have:=HMEM.out y hy
              omega⟩
            obtain ⟨T,hT⟩:∃ T,T=room.toNat:=⟨_,rfl⟩
            have HCAP:=hid (qzY T k ws _ wz hVA (by omega))
            have HMX:=hid (show (max room 0:Int)=(T:Int) by omega)
            have HT:=hid hT
            clear hT
            have HWS:=hid hws
            have hbwr:Below w0.heap.size w0 w0:=Below.refl _ _
            clear hws hVA hrw hvw hbwr
            have hcapA:∀ (e:Ending) (W:World),CapP T k ws wz e W→∃ (pg poff pcap:Nat) (ps:List Nat),e=.returned (.tuple #[.slice (some ⟨pg,poff,none⟩) k pcap,.int .i64 0])∧(∀ j u,(cellsN ps)[j]?=some u→W.cell? ⟨pg,poff+j,none⟩=some u)∧Below wz.heap.size wz W∧CapsP T ws ps:=by
              rintro _ W ⟨pv,ps,rfl,hrd,hb2,hpl,hor⟩
              obtain ⟨pg,poff,pcap,rfl,hpc⟩:=hrd.some (by omega)
              exact ⟨pg,poff,pcap,ps,rfl,hpc,hb2,by rw [hpl,hwl],hor⟩
            have HCA:=hid hcapA
            clear hcapA
            go_upto_region 23 with (first|(refine qgI rfl _ _ _ rfl .i64 room 0 rfl rfl ?_;rw [HMX.out])|(go_at_call 35;refine HCAP.out.mono ?_;intro e w2 hcp;obtain ⟨pg,poff,pcap,ps,rfl,hpc,hb2,hps⟩:=HCA.out _ _ hcp;clear hcp;have HPC:=hid hpc;have HB2:=hid hb2;have HPS:=hid hps;clear hpc hb2 hps))
            obtain ⟨PB,hPB⟩:∃ b,b=w2.heap.size:=⟨_,rfl⟩
            obtain ⟨w3,hw3⟩:∃ w3,w3=w2.alloc (.cells #[.slice (some ⟨pg,poff,none⟩) k pcap] 30):=⟨_,rfl⟩
            rw [←hPB,←hw3]
            have hb3:Below wz.heap.size wz w3:=by rw [hw3];exact HB2.out.alloc HB2.out.size _
            have e1:w3.cell? ⟨B1,0,none⟩=some (.slice (some ⟨g,off,none⟩) k cap):=qcU d1 hb3
            have e2:w3.cell? ⟨PB,0,none⟩=some (.slice (some ⟨pg,poff,none⟩) k pcap):=by rw [hw3,hPB];go_cell
            have hw23:Below w2.heap.size w2 w3:=by rw [hw3];exact (Below.refl _ _).alloc (Nat.le_refl _) _
            have HE3:=hid (And.intro e1 e2)
            have HB3:=hid hb3
            have HW23:=hid hw23
            have hVPB:V<PB:=by rw [hPB];exact Nat.lt_of_lt_of_le hVr HB2.out.size
            have hP3:PB<w3.heap.size:=by rw [hw3,hPB];simp
            have hmf:∀ (fn:Fn) (first cap:Array Value) (w:World),(Instr.makeFunc fn first cap).run Tryz.prog w=.ok (.func fn first cap) w:=fun _ _ _ _=>rfl
            clear hPB hw3 hb3 hw23
            go_upto_region 27 with fail
            obtain ⟨O,hO⟩:∃ O,O=w3.heap.size:=⟨_,rfl⟩
            obtain ⟨wb,hwb⟩:∃ wb,wb=w3.alloc (.cells (madeCells #[.int .i64 0] k) 3):=⟨_,rfl⟩
            rw [←hO,←hwb]
            obtain ⟨outs,houts⟩:∃ o,o=scaleL l ps:=⟨_,rfl⟩
            have hpsl:ps.length=k:=by rw [HPS.out.1,hwl]
            have hol:outs.length=k:=by rw [houts,scaleL,List.length_zipWith,hpsl,←HN.out,Nat.min_self]
            have hrow:Row wb O 0 (fillT outs 0):=by rw [qeV,hol,hwb];exact qaX _ _ _ _ hO
            have hb3b:Below w3.heap.size w3 wb:=by rw [hwb];exact (Below.refl _ _).alloc (Nat.le_refl _) _
            have hOlt:O<wb.heap.size:=by rw [hwb,hO];simp
            have e1:=qcU e1 hb3b
            have e2:=qcU e2 hb3b
            have hPO:PB<O:=by rw [hO];exact hP3
            have HROW2:=hid hrow
            have HBW:=hid (show Below wz.heap.size wz wb from HB3.out.trans (hb3b.mono HB3.out.size))
            have HB2B:=hid (show Below w2.heap.size w2 wb from HW23.out.trans (hb3b.mono HW23.out.size))
            have HOU:=hid houts
            have HO3:=hid hO
            have h23:=HW23.out.size
            have hwr2:=HB2.out.size
            clear houts hO hwb hrow hb3b hmk
            go_wp2
            go_loopg [18,88] k (fun m _ kv wr=>∃ j:Nat,kv=.int .i64 j∧j≤k∧k≤m+j∧Row wr O 0 (fillT outs j)∧wb.grownBy wr (some O))
            case atStart=>exact ⟨0,rfl,by omega,by omega,HROW2.out,qbX _ _⟩
            case round =>
              obtain ⟨j,rfl,hj,hm2,hrw,hgb2⟩:=hrel
              have HG3:=hid hgb2
              have HRW3:=hid hrw
              by_cases hjk:j<k
              · obtain ⟨x,hx⟩:∃ x,l[j]?=some x:=⟨l[j]'(by rw [←HN.out];exact hjk),by simp [←HN.out,hjk]⟩
                obtain ⟨p0,hp0⟩:∃ p0,ps[j]?=some p0:=⟨ps[j]'(by omega),by simp [hpsl,hjk]⟩
                have hxo:outs[j]?=some (scI x p0):=by rw [HOU.out,scaleL,List.getElem?_zipWith,hx,hp0]
                have hmx:=HMEM.out x (List.mem_of_getElem? hx)
                have hple:(p0:Int)≤x.value:=by
                  have:=qnS HPS.out (i:=j) (by omega)
                  rw [HWS.out] at this
                  simp only [List.getD,hp0,valsN,List.getElem?_map,hx,Option.map_some,Option.getD_some] at this
                  omega
                have hgw:g<wz.heap.size:=by omega
                have hq:QAt wr g (off+j*3) x:=by
                  have h1:QAt wa g (off+j*3) x:=(HC.out j x hx).below (show Below w.heap.size w wa by have:=HFA.out.below;rwa [HB0.out] at this)
                  have h2:QAt wz g (off+j*3) x:=⟨hgb.cell h1.1 (by simp;omega),hgb.cell h1.2.1 (by simp;omega),hgb.cell h1.2.2 (by simp;omega)⟩
                  have h3:=h2.below HBW.out
                  exact ⟨hgb2.cell h3.1 (by simp;omega),hgb2.cell h3.2.1 (by simp;omega),hgb2.cell h3.2.2 (by simp;omega)⟩
                have hpc0:wb.cell? ⟨pg,poff+j,none⟩=some (.int .i64 (p0:Int)):=qcU (HPC.out j _ (by rw [cellsN,List.getElem?_map,hp0];rfl)) HB2B.out
                have hpgO:pg<O:=by
                  have:=World.block_lt_of_cell? w2 _ (HPC.out j (.int .i64 (p0:Int)) (by rw [cellsN,List.getElem?_map,hp0];rfl))
                  have:=HO3.out
                  simp only at *
                  omega
                have q1:wr.cell? ⟨B1,0,none⟩=some (.slice (some ⟨g,off,none⟩) k cap):=hgb2.cell e1 (by simp;omega)
                have q2:wr.cell? ⟨PB,0,none⟩=some (.slice (some ⟨pg,poff,none⟩) k pcap):=hgb2.cell e2 (by simp;omega)
                have q3:wr.cell? ⟨pg,poff+j,none⟩=some (.int .i64 (p0:Int)):=hgb2.cell hpc0 (by simp;omega)
                have HSC:=hid (qrK j k cap pcap PB B1 pg poff g off p0 x wr q2 q1 q3 hq hjk hmx.1 hmx.2.1 hmx.2.2.1 hmx.2.2.2 hple)
                have cO:wr.cell? ⟨O,j,none⟩=some (.int .i64 0):=by have:=hrw.1 j 0 (qhH outs j (by omega));simpa using this
                have fO:=hrw.2 j
                have hOq:O<wr.heap.size:=Nat.lt_of_lt_of_le hOlt hgb2.size
                have HXO:=hid hxo
                clear hx hp0 hxo hmx hple hgw hq hpc0 q1 q2 q3 hrw hgb2
                go_wp2_with (go_at_call 36;refine HSC.out.mono ?_;rintro e w5 ⟨rfl,hb5⟩;have HB5:=hid hb5;have cO5:=qcU cO hb5;have fO5:=(hb5.frozen (p:=⟨O,j,none⟩) hOq).trans fO;clear hb5)
                go_roundg (gk - 1)
                case measure=>omega
                case rel =>
                  refine ⟨j+1,by go_num,by omega,by omega,?_,?_⟩
                  · have h:=(HRW3.out.grown (row:=none) (qhX HB5.out) (by simp) hOq).set0 j (scI x p0)
                    rw [qeJ outs j _ HXO.out] at h
                    exact h
                  · exact gBt HG3.out (gBt (qhX HB5.out) (qaP _ rfl _))
              · have hjk:j=k:=by omega
                subst hjk
                rw [←hol,qeW] at HRW3
                have hfin:Below w.heap.size w wr:=by
                  have h0:Below w.heap.size w wa:=by have:=HFA.out.below;rwa [HB0.out] at this
                  have hz:=h0.size
                  have h1:Below w.heap.size w wz:=h0.grown HG2.out hz (by intro r hr;injection hr with hr;have:=HB0.out;omega)
                  have h2:Below w.heap.size w wb:=h1.trans (HBW.out.mono h1.size)
                  exact h2.grown HG3.out h2.size (by intro r hr;injection hr with hr;have:=HB0.out;omega)
                have HFIN:=hid hfin
                have hOq:O<wr.heap.size:=Nat.lt_of_lt_of_le hOlt hgb2.size
                clear hfin hgb2 hrw
                go_wp2
                go_ret2
                exact ⟨HFIN.out,.inr ⟨HE.out,O,outs,qkQ HN.out,by have:=HB0.out;omega,hOq,HRW3.out,ps,by rw [←HRO.out,←HWS.out,←HT.out];exact HPS.out,HOU.out⟩⟩
end Go.Proofs.YtooeabibhjbkoaaGreat
set_option maxHeartbeats 8000000
namespace Go.Proofs.YtooeabibhjbkoaaGreat
open Go.RowKit Big
open Lib (hid)
theorem rmulQ {ca cb cR:List Value} {a b:Qn} {code:Int} (h1:ca=ratZ a.1 a.2) (h2:cb=ratZ b.1 b.2) (ha:VQ a) (hb:VQ b) (hR:cR=resR (mulQ a b)) (hc:code=resE (mulQ a b)) (w:World) :
  Calls Tryz.prog 47 #[.agg ca.toArray,.agg cb.toArray] w fun e w'=>e=.returned (.tuple #[.agg cR.toArray,.int .i64 code])∧Below w.heap.size w w':=by
 have V_ca:=hid h1
 have V_cb:=hid h2
 obtain ⟨B1,B2,B3⟩:=qsK ha hb
 have hd:((a.2:Int)*(b.2:Int)).natAbs<BB^30:=by rw [Int.natAbs_mul];exact qhR (by simpa using ha.den) (by simpa using hb.den)
 obtain ⟨rn,rp,rm,rq,hcR⟩:∃ rn rp rm rq,cR=rat rn rp rm rq:=by
  rw [hR]
  cases mulQ a b with
  | none=>exact ⟨_,_,_,_,rfl⟩
  | some r=>exact ⟨_,_,_,_,rfl⟩
 have V_cR:=hid hcR
 obtain ⟨cz,V_cz⟩:∃ c:List Value,Hid (c=rat false 0 false 0):=⟨_,hid rfl⟩
 obtain ⟨cna,V_cna⟩:∃ c:List Value,Hid (c=iZ a.1):=⟨_,hid rfl⟩
 obtain ⟨cnb,V_cnb⟩:∃ c:List Value,Hid (c=iZ b.1):=⟨_,hid rfl⟩
 obtain ⟨cx,V_cx⟩:∃ c:List Value,Hid (c=iZ (a.1*b.1)):=⟨_,hid rfl⟩
 obtain ⟨ce,V_ce⟩:∃ c:List Value,Hid (c=iZ ((a.2:Int)*(b.2:Int))):=⟨_,hid rfl⟩
 obtain ⟨cda,V_cda⟩:∃ c:List Value,Hid (c=.bool false::lv 32 a.2):=⟨_,hid rfl⟩
 obtain ⟨cdb,V_cdb⟩:∃ c:List Value,Hid (c=.bool false::lv 32 b.2):=⟨_,hid rfl⟩
 have hda:cda=iZ (a.2:Int):=by rw [V_cda.out,qhW]
 have hdb:cdb=iZ (b.2:Int):=by rw [V_cdb.out,qhW]
 have HVA:=hid (qdV V_ca.out ha)
 have HVB:=hid (qdV V_cb.out hb)
 have HX:=hid (qhN V_cna.out V_cnb.out V_cx.out (qaJ ha.num) (qaJ hb.num) B1)
 have HD:=hid (qhN hda hdb V_ce.out (qaJ (by simpa using ha.den)) (qaJ (by simpa using hb.den)) (b30 hd))
 have HM:=hid (qrP V_cx.out (show ce=iZ ((a.2*b.2:Nat):Int) by rw [V_ce.out,Int.natCast_mul]) hR hc B1 B2 B3)
 clear h1 h2 ha hb hR hc hd hcR hda hdb B1 B2 B3
 obtain ⟨B0,hB0⟩:∃ B,B=w.heap.size:=⟨_,rfl⟩
 obtain ⟨B1,hB1⟩:∃ B,B=w.heap.size+1:=⟨_,rfl⟩
 obtain ⟨B2,hB2⟩:∃ B,B=w.heap.size+1+1:=⟨_,rfl⟩
 obtain ⟨w0,hw0⟩:∃ w0,w0=(((w.alloc (.cells ca.toArray 27)).alloc (.cells cb.toArray 27)).alloc (.cells Tryz.zeroCells27 27)):=⟨_,rfl⟩
 have AB0:=hid (show At w0 B0 0 ca by rw [hw0];exact (((show At (w.alloc (.cells ca.toArray 27)) B0 0 ca from At.fresh _ ca _ (by simp [hB0])).alloc _).alloc _))
 have AB1:=hid (show At w0 B1 0 cb by rw [hw0];exact ((show At ((w.alloc (.cells ca.toArray 27)).alloc (.cells cb.toArray 27)) B1 0 cb from At.fresh _ cb _ (by simp [hB1])).alloc _))
 have AB2:=hid (show At w0 B2 0 cz by rw [hw0];exact (show At (((w.alloc (.cells ca.toArray 27)).alloc (.cells cb.toArray 27)).alloc (.cells Tryz.zeroCells27 27)) B2 0 cz from (by rw [Tryz.zeroR,V_cz.out];exact At.fresh _ (rat false 0 false 0) _ (by simp [hB2]))))
 have FR:=hid (show Fr B0 w w0 by rw [hw0,hB0];exact (((Fr.start w).alloc _).alloc _).alloc _)
 have FR0:=hid FR.out.le
 have l01:B0<B1:=by omega
 have hZB1:B0≤B1:=by omega
 have l12:B1<B2:=by omega
 have hZB2:B0≤B2:=by omega
 have hZB0:B0≤B0:=Nat.le_refl _
 have HB0:=hid hB0
 go_enter Tryz.func47,Tryz.ntmps47
 go_upto_region 1 with fail
 rw [←hw0,←hB2,←hB1,←hB0]
 clear hw0 hB0 hB1 hB2
 refine wfn [] [(6,.agg ca.toArray),(7,.bool true),(8,.bool false),(9,.bool false),(10,.agg cb.toArray),(11,.bool true),(12,.bool false),(13,.bool false)] _ (by simp only [zz4,zz5,zq];rfl) (by kernel_rfl) (by kernel_rfl) rfl ?_ ?_ ?_ ?_
 ·intro W' hW'
  have rd0:=AB0.out.below hW'
  have rd1:=AB1.out.below hW'
  refine fxo (wlg (by rfl) rfl rfl rd0 Tryz.underlying27 rfl (qR V_ca.out) (wqn (by simp only [zq]))) ?_
  refine fxo ?_ ?_;(go_big_quiet_step ((go_at_call 77;exact qaA (HVA.out _)));(try simp only [zq]);exact wqn rfl)
  iterate 2 (refine fxo ?_ ?_;(go_big_quiet_step (fail);(try simp only [zq]);exact wqn rfl))
  refine fxo (wlg (by rfl) rfl rfl rd1 Tryz.underlying27 rfl (qR V_cb.out) (wqn (by simp only [zq]))) ?_
  refine fxo ?_ ?_;(go_big_quiet_step ((go_at_call 77;exact qaA (HVB.out _)));(try simp only [zq]);exact wqn rfl)
  iterate 2 (refine fxo ?_ ?_;(go_big_quiet_step (fail);(try simp only [zq]);exact wqn rfl))
  exact fxn
 ·exact oN
 ·exact oN
 intro β wx1 E
 replace FR:=hid (FR.out.fnw E rfl)
 replace AB0:=hid (AB0.out.fnw E rfl)
 replace AB1:=hid (AB1.out.fnw E rfl)
 replace AB2:=hid (AB2.out.fnw E rfl)
 have hE:=E.below rfl
 simp only [nP,zr,zq]
 replace FR0:=hid FR.out.le
 clear E
 go_upto_region 3 with fail
 have AB0_n:=hid (AB0.out.num V_ca.out V_cna.out)
 have AB0_d:=hid (AB0.out.den V_ca.out V_cda.out)
 have AB1_n:=hid (AB1.out.num V_cb.out V_cnb.out)
 have AB1_d:=hid (AB1.out.den V_cb.out V_cdb.out)
 refine qwf [⟨false,0,4,13,B2,0,27,26,cR,0,cR,[]⟩] [(15,.pointer (some ⟨B0,0,none⟩)),(16,.agg cna.toArray),(17,.pointer (some ⟨B1,0,none⟩)),(18,.agg cnb.toArray),(19,.agg cx.toArray),(20,.pointer (some ⟨B0,33,none⟩)),(21,.agg cda.toArray),(22,.pointer (some ⟨B1,33,none⟩)),(23,.agg cdb.toArray),(24,.agg ce.toArray),(25,.tuple #[.agg cR.toArray,.int .i64 code]),(26,.agg cR.toArray),(27,.int .i64 code),(5,.int .i64 code)] _ (by simp only [zz4,zz5,zq];rfl) (by kernel_rfl) (by kernel_rfl) ?_ ?_ ?_ ?_ ?_ ?_ ?_
 ·intro W' hW'
  have rd0:=AB0_n.out.below hW'
  have rd1:=AB1_n.out.below hW'
  have rd2:=AB0_d.out.below hW'
  have rd3:=AB1_d.out.below hW'
  refine fxo ?_ ?_;(go_big_quiet_step (fail);(try simp only [zq]);exact wqn rfl)
  refine fxo (wlg (by rfl) rfl rfl rd0 Tryz.underlying25 rfl (qI V_cna.out) (wqn (by simp only [zq]))) ?_
  refine fxo ?_ ?_;(go_big_quiet_step (fail);(try simp only [zq]);exact wqn rfl)
  refine fxo (wlg (by rfl) rfl rfl rd1 Tryz.underlying25 rfl (qI V_cnb.out) (wqn (by simp only [zq]))) ?_
  refine fxo ?_ ?_;(go_big_quiet_step ((go_at_call 79;exact qaA (HX.out _)));(try simp only [zq]);exact wqn rfl)
  refine fxo ?_ ?_;(go_big_quiet_step (fail);(try simp only [zq]);exact wqn rfl)
  refine fxo (wlg (by rfl) rfl rfl rd2 Tryz.underlying25 rfl (qI V_cda.out) (wqn (by simp only [zq]))) ?_
  refine fxo ?_ ?_;(go_big_quiet_step (fail);(try simp only [zq]);exact wqn rfl)
  refine fxo (wlg (by rfl) rfl rfl rd3 Tryz.underlying25 rfl (qI V_cdb.out) (wqn (by simp only [zq]))) ?_
  refine fxo ?_ ?_;(go_big_quiet_step ((go_at_call 79;exact qaA (HD.out _)));(try simp only [zq]);exact wqn rfl)
  refine fxo ?_ ?_;(go_big_quiet_step ((go_at_call 80;exact qaA (HM.out _)));(try simp only [zq]);exact wqn rfl)
  iterate 2 (refine fxo ?_ ?_;(go_big_quiet_step (fail);(try simp only [zq]);exact wqn rfl))
  refine fxs (by rfl) ?_
  refine fxo ?_ ?_;(go_big_quiet_step (fail);(try simp only [zq]);exact wqn rfl)
  exact fxn
 ·intro W' hK'
  have rd0:=At.keep hK' AB0_n.out (oP _ _ (fun _=>(by show B2≠B0;omega)) (oN))
  have rd1:=At.keep hK' AB1_n.out (oP _ _ (fun _=>(by show B2≠B1;omega)) (oN))
  have rd2:=At.keep hK' AB0_d.out (oP _ _ (fun _=>(by show B2≠B0;omega)) (oN))
  have rd3:=At.keep hK' AB1_d.out (oP _ _ (fun _=>(by show B2≠B1;omega)) (oN))
  first|(refine fxo ?_ ?_;(go_big_quiet_step (fail);(try simp only [zq]);exact wqn rfl))|(refine fxs (by kernel_rfl) ?_)
  refine fxo (wlg (by rfl) rfl rfl rd0 Tryz.underlying25 rfl (qI V_cna.out) (wqn (by simp only [zq]))) ?_
  first|(refine fxo ?_ ?_;(go_big_quiet_step (fail);(try simp only [zq]);exact wqn rfl))|(refine fxs (by kernel_rfl) ?_)
  refine fxo (wlg (by rfl) rfl rfl rd1 Tryz.underlying25 rfl (qI V_cnb.out) (wqn (by simp only [zq]))) ?_
  refine fxs (by kernel_rfl) ?_
  first|(refine fxo ?_ ?_;(go_big_quiet_step (fail);(try simp only [zq]);exact wqn rfl))|(refine fxs (by kernel_rfl) ?_)
  refine fxo (wlg (by rfl) rfl rfl rd2 Tryz.underlying25 rfl (qI V_cda.out) (wqn (by simp only [zq]))) ?_
  first|(refine fxo ?_ ?_;(go_big_quiet_step (fail);(try simp only [zq]);exact wqn rfl))|(refine fxs (by kernel_rfl) ?_)
  refine fxo (wlg (by rfl) rfl rfl rd3 Tryz.underlying25 rfl (qI V_cdb.out) (wqn (by simp only [zq]))) ?_
  iterate 2 (refine fxs (by kernel_rfl) ?_)
  iterate 2 (first|(refine fxo ?_ ?_;(go_big_quiet_step (fail);(try simp only [zq]);exact wqn rfl))|(refine fxs (by kernel_rfl) ?_))
  refine fxs (by kernel_rfl) ?_
  first|(refine fxo ?_ ?_;(go_big_quiet_step (fail);(try simp only [zq]);exact wqn rfl))|(refine fxs (by kernel_rfl) ?_)
  exact fxn
 ·exact oP _ _ (bnc) (oN)
 ·exact oP _ _ (fun _=>⟨AB2.out.lt,rfl,At.room AB2.out (qR V_cz.out) (qR V_cR.out)⟩) (oN)
 ·exact uno
 ·exact oP _ _ (stw rfl (qR V_cR.out) (qhE V_cR.out) (fun _=>rfl)) (oN)
 intro β wx2 E
 replace FR:=hid (FR.out.flow E (oP _ _ (fun _=>(by show B0≤B2;omega)) (oN)))
 replace AB0:=hid (At.flow E AB0.out (oP _ _ (fun _=>(by show B2≠B0;omega)) (oN)))
 replace AB1:=hid (At.flow E AB1.out (oP _ _ (fun _=>(by show B2≠B1;omega)) (oN)))
 replace AB2:=hid (show At wx2 B2 0 cR from E.atOld mms rfl AB2.out.lt)
 replace AB0_n:=hid (At.flow E AB0_n.out (oP _ _ (fun _=>(by show B2≠B0;omega)) (oN)))
 replace AB0_d:=hid (At.flow E AB0_d.out (oP _ _ (fun _=>(by show B2≠B0;omega)) (oN)))
 replace AB1_n:=hid (At.flow E AB1_n.out (oP _ _ (fun _=>(by show B2≠B1;omega)) (oN)))
 replace AB1_d:=hid (At.flow E AB1_d.out (oP _ _ (fun _=>(by show B2≠B1;omega)) (oN)))
 simp only [nP,zr,zq]
 replace FR0:=hid FR.out.le
 clear E
 go_wp2_with fail
 have hld:=AB2.out.read (P:=Tryz.prog) Tryz.underlying27 rfl (qR V_cR.out)
 refine bodyPost_ret (v:=.tuple #[.agg cR.toArray,.int .i64 code]) (by simp [results,Tryz.results47,asAddr,hld]) rfl ?_
 exact ⟨rfl,fend HB0 FR⟩
theorem jaL {ca:List Value} {a:Qn} {s:Int} (h1:ca=ratZ a.1 a.2) (ha:VQ a) (hs:s=a.1.sign) (w:World) :
  Calls Tryz.prog 144 #[.agg ca.toArray] w fun e w'=>e=.returned (.tuple #[.int .i64 s,.int .i64 0])∧Below w.heap.size w w':=by
 have V_ca:=hid (show ca=rat (decide (a.1<0)) a.1.natAbs false a.2 from h1)
 obtain ⟨cn,V_cn⟩:∃ c:List Value,Hid (c=.bool (decide (a.1<0))::lv 32 a.1.natAbs):=⟨_,hid rfl⟩
 obtain ⟨cd,V_cd⟩:∃ c:List Value,Hid (c=.bool false::lv 32 a.2):=⟨_,hid rfl⟩
 have HV:=hid (qdV h1 ha)
 have HS:=hid (qbR V_cn.out (show s=sgnI (decide (a.1<0)) a.1.natAbs by rw [qxG];exact hs) (qaJ ha.num))
 clear h1 ha hs
 obtain ⟨B0,hB0⟩:∃ B,B=w.heap.size:=⟨_,rfl⟩
 obtain ⟨w0,hw0⟩:∃ w0,w0=(w.alloc (.cells ca.toArray 27)):=⟨_,rfl⟩
 have AB0:=hid (show At w0 B0 0 ca by rw [hw0];exact (show At (w.alloc (.cells ca.toArray 27)) B0 0 ca from At.fresh _ ca _ (by simp [hB0])))
 have FR:=hid (show Fr B0 w w0 by rw [hw0,hB0];exact (Fr.start w).alloc _)
 have FR0:=hid FR.out.le
 have hZB0:B0≤B0:=Nat.le_refl _
 have HB0:=hid hB0
 go_enter Tryz.func144,Tryz.ntmps144
 go_upto_region 1 with fail
 rw [←hw0,←hB0]
 clear hw0 hB0
 have AB0_n:=hid (AB0.out.num V_ca.out V_cn.out)
 have AB0_d:=hid (AB0.out.den V_ca.out V_cd.out)
 refine wfn [] [(4,.agg ca.toArray),(5,.bool true),(6,.bool false)] _ (by simp only [zz4,zz5,zq];rfl) (by kernel_rfl) (by kernel_rfl) rfl ?_ ?_ ?_ ?_
 ·intro W' hW'
  have rd0:=AB0.out.below hW'
  refine fxo (wlg (by rfl) rfl rfl rd0 Tryz.underlying27 rfl (qR V_ca.out) (wqn (by simp only [zq]))) ?_
  refine fxo ?_ ?_;(go_big_quiet_step ((go_at_call 77;exact qaA (HV.out _)));(try simp only [zq]);exact wqn rfl)
  refine fxo ?_ ?_;(go_big_quiet_step (fail);(try simp only [zq]);exact wqn rfl)
  exact fxn
 ·exact oN
 ·exact oN
 intro β wx1 E
 replace FR:=hid (FR.out.fnw E rfl)
 replace AB0:=hid (AB0.out.fnw E rfl)
 replace AB0_n:=hid (AB0_n.out.fnw E rfl)
 replace AB0_d:=hid (AB0_d.out.fnw E rfl)
 have hE:=E.below rfl
 simp only [nP,zr,zq]
 replace FR0:=hid FR.out.le
 clear E
 go_upto_region 3 with fail
 refine wfn [] [(7,.pointer (some ⟨B0,0,none⟩)),(8,.agg cn.toArray),(9,.int .i64 s),(2,.int .i64 s),(3,.int .i64 0)] _ (by simp only [zz4,zz5,zq];rfl) (by kernel_rfl) (by kernel_rfl) rfl ?_ ?_ ?_ ?_
 ·intro W' hW'
  have rd0:=AB0_n.out.below hW'
  refine fxo ?_ ?_;(go_big_quiet_step (fail);(try simp only [zq]);exact wqn rfl)
  refine fxo (wlg (by rfl) rfl rfl rd0 Tryz.underlying25 rfl (qI V_cn.out) (wqn (by simp only [zq]))) ?_
  refine fxo ?_ ?_;(go_big_quiet_step ((go_at_call 110;exact qaA (HS.out _)));(try simp only [zq]);exact wqn rfl)
  iterate 2 (refine fxo ?_ ?_;(go_big_quiet_step (fail);(try simp only [zq]);exact wqn rfl))
  exact fxn
 ·exact oN
 ·exact oN
 intro β wx2 E
 replace FR:=hid (FR.out.fnw E rfl)
 replace AB0:=hid (AB0.out.fnw E rfl)
 replace AB0_n:=hid (AB0_n.out.fnw E rfl)
 replace AB0_d:=hid (AB0_d.out.fnw E rfl)
 have hE:=E.below rfl
 simp only [nP,zr,zq]
 replace FR0:=hid FR.out.le
 clear E
 go_wp2
 go_ret2
 exact ⟨rfl,fend HB0 FR⟩
theorem rcmpQ {ca cb:List Value} {a b:Qn} {z:Int} (h1:ca=ratZ a.1 a.2) (h2:cb=ratZ b.1 b.2) (ha:VQ a) (hb:VQ b) (hz:z=cmpZ (a.1*(b.2:Int)) (b.1*(a.2:Int))) (w:World) :
  Calls Tryz.prog 49 #[.agg ca.toArray,.agg cb.toArray] w fun e w'=>e=.returned (.tuple #[.int .i64 z,.int .i64 0])∧Below w.heap.size w w':=by
 have V_ca:=hid (show ca=rat (decide (a.1<0)) a.1.natAbs false a.2 from h1)
 have V_cb:=hid (show cb=rat (decide (b.1<0)) b.1.natAbs false b.2 from h2)
 have HA:=hid (qdV h1 ha)
 have HB:=hid (qdV h2 hb)
 have HC:=hid (qrR h1 h2 ha hb hz)
 clear h1 h2 ha hb hz
 obtain ⟨B0,hB0⟩:∃ B,B=w.heap.size:=⟨_,rfl⟩
 obtain ⟨B1,hB1⟩:∃ B,B=w.heap.size+1:=⟨_,rfl⟩
 obtain ⟨w0,hw0⟩:∃ w0,w0=((w.alloc (.cells ca.toArray 27)).alloc (.cells cb.toArray 27)):=⟨_,rfl⟩
 have AB0:=hid (show At w0 B0 0 ca by rw [hw0];exact ((show At (w.alloc (.cells ca.toArray 27)) B0 0 ca from At.fresh _ ca _ (by simp [hB0])).alloc _))
 have AB1:=hid (show At w0 B1 0 cb by rw [hw0];exact (show At ((w.alloc (.cells ca.toArray 27)).alloc (.cells cb.toArray 27)) B1 0 cb from At.fresh _ cb _ (by simp [hB1])))
 have FR:=hid (show Fr B0 w w0 by rw [hw0,hB0];exact ((Fr.start w).alloc _).alloc _)
 have FR0:=hid FR.out.le
 have l01:B0<B1:=by omega
 have hZB1:B0≤B1:=by omega
 have hZB0:B0≤B0:=Nat.le_refl _
 have HB0:=hid hB0
 go_enter Tryz.func49,Tryz.ntmps49
 go_upto_region 1 with fail
 rw [←hw0,←hB1,←hB0]
 clear hw0 hB0 hB1
 refine wfn [] [(6,.agg ca.toArray),(7,.bool true),(8,.bool false),(9,.bool false),(10,.agg cb.toArray),(11,.bool true),(12,.bool false),(13,.bool false)] _ (by simp only [zz4,zz5,zq];rfl) (by kernel_rfl) (by kernel_rfl) rfl ?_ ?_ ?_ ?_
 ·intro W' hW'
  have rd0:=AB0.out.below hW'
  have rd1:=AB1.out.below hW'
  refine fxo (wlg (by rfl) rfl rfl rd0 Tryz.underlying27 rfl (qR V_ca.out) (wqn (by simp only [zq]))) ?_
  refine fxo ?_ ?_;(go_big_quiet_step ((go_at_call 77;exact qaA (HA.out _)));(try simp only [zq]);exact wqn rfl)
  iterate 2 (refine fxo ?_ ?_;(go_big_quiet_step (fail);(try simp only [zq]);exact wqn rfl))
  refine fxo (wlg (by rfl) rfl rfl rd1 Tryz.underlying27 rfl (qR V_cb.out) (wqn (by simp only [zq]))) ?_
  refine fxo ?_ ?_;(go_big_quiet_step ((go_at_call 77;exact qaA (HB.out _)));(try simp only [zq]);exact wqn rfl)
  iterate 2 (refine fxo ?_ ?_;(go_big_quiet_step (fail);(try simp only [zq]);exact wqn rfl))
  exact fxn
 ·exact oN
 ·exact oN
 intro β wx1 E
 replace FR:=hid (FR.out.fnw E rfl)
 replace AB0:=hid (AB0.out.fnw E rfl)
 replace AB1:=hid (AB1.out.fnw E rfl)
 have hE:=E.below rfl
 simp only [nP,zr,zq]
 replace FR0:=hid FR.out.le
 clear E
 go_upto_region 3 with fail
 refine wfn [] [(14,.agg ca.toArray),(15,.agg cb.toArray),(16,.int .i64 z),(4,.int .i64 z),(5,.int .i64 0)] _ (by simp only [zz4,zz5,zq];rfl) (by kernel_rfl) (by kernel_rfl) rfl ?_ ?_ ?_ ?_
 ·intro W' hW'
  have rd0:=AB0.out.below hW'
  have rd1:=AB1.out.below hW'
  refine fxo (wlg (by rfl) rfl rfl rd0 Tryz.underlying27 rfl (qR V_ca.out) (wqn (by simp only [zq]))) ?_
  refine fxo (wlg (by rfl) rfl rfl rd1 Tryz.underlying27 rfl (qR V_cb.out) (wqn (by simp only [zq]))) ?_
  refine fxo ?_ ?_;(go_big_quiet_step ((go_at_call 81;exact qaA (HC.out _)));(try simp only [zq]);exact wqn rfl)
  iterate 2 (refine fxo ?_ ?_;(go_big_quiet_step (fail);(try simp only [zq]);exact wqn rfl))
  exact fxn
 ·exact oN
 ·exact oN
 intro β wx2 E
 replace FR:=hid (FR.out.fnw E rfl)
 replace AB0:=hid (AB0.out.fnw E rfl)
 replace AB1:=hid (AB1.out.fnw E rfl)
 have hE:=E.below rfl
 simp only [nP,zr,zq]
 replace FR0:=hid FR.out.le
 clear E
 go_wp2
 go_ret2
 exact ⟨rfl,fend HB0 FR⟩
def nm (n:Bool) (p:Nat) (m:Bool) (q:Nat) (e:Int):List Value:=rat n p m q++[.int .i64 e]
theorem qxM (n m:Bool) (p q:Nat) (e:Int):(nm n p m q e).length=67:=by simp [nm,qbP]
theorem jaQ (n m:Bool) (p q:Nat) (e:Int):∀ v∈nm n p m q e,v.oneCell'=true:=by
 intro v hv
 rcases List.mem_append.1 hv with h|h
 ·exact qrS n p m q v h
 ·rw [List.mem_singleton.1 h];rfl
theorem Tryz.infoN:(Tryz.prog.info? 44).map (·.size)=some 67:=by kernel_rfl
theorem qaY {cs:List Value} {n m:Bool} {p q:Nat} {e:Int} (h:cs=nm n p m q e):(Tryz.prog.info? 44).map (·.size)=some cs.length:=by rw [h,qxM];exact Tryz.infoN
theorem qsE {cs:List Value} {n m:Bool} {p q:Nat} {e:Int} (h:cs=nm n p m q e):cs.toArray.all (·.oneCell')=true:=by rw [h];exact all_oneCell_toArray (jaQ n m p q e)
theorem qeX {c r:List Value} {n m:Bool} {p q:Nat} {e:Int} (hc:c=rat n p m q) (hr:r=nm n p m q e):Tryz.prog.built 44 [(0,.agg c.toArray),(1,.int .i64 e)]=some r.toArray:=by
 subst hc hr;unfold nm rat;kernel_rfl
theorem qgF {c r:List Value} {n m:Bool} {p q:Nat} (hc:c=rat n p m q) (hr:r=nm n p m q 0):Tryz.prog.built 44 [(0,.agg c.toArray)]=some r.toArray:=by
 subst hc hr;unfold nm rat;kernel_rfl
theorem qgE {r:List Value} {e:Int} (hr:r=nm false 0 false 0 e):Tryz.prog.built 44 [(1,.int .i64 e)]=some r.toArray:=by
 subst hr;unfold nm rat;rw [qbJ];kernel_rfl
theorem Tryz.zeroN:Tryz.zeroCells44=(nm false 0 false 0 0).toArray:=by unfold nm rat;rw [qbJ];rfl
theorem At.val {w:World} {b:Nat} {c d:List Value} {n m:Bool} {p q:Nat} {e:Int} (h:At w b 0 c) (hc:c=nm n p m q e) (hd:d=rat n p m q):At w b 0 d:=by
 subst hc hd;exact At.head h
theorem At.err {w:World} {b:Nat} {c:List Value} {n m:Bool} {p q:Nat} {e:Int} (h:At w b 0 c) (hc:c=nm n p m q e):w.cell? ⟨b,66,none⟩=some (.int .i64 e):=by
 subst hc
 have:=h.cell (j:=66) (v:=.int .i64 e) (by unfold nm;rw [List.getElem?_append_right (by rw [qbP];omega),qbP];rfl)
 simpa using this
set_option maxHeartbeats 8000000
def resN (o:Option Qn):List Value:=resR o++[.int .i64 (resE o)]
def opt2 (f:Qn→Qn→Option Qn) (a b:Option Qn):Option Qn:=match a,b with|some x,some y=>f x y|_,_=>none
def okN (o:Option Qn):Prop:=∀ r,o=some r→VQ r
theorem qjG (o:Option Qn):∃ n p m q e,resN o=nm n p m q e:=by
 cases o with
 | none=>exact ⟨_,_,_,_,_,rfl⟩
 | some r=>exact ⟨_,_,_,_,_,rfl⟩
theorem qxU {cN:List Value} {z:Int} (hN:cN=resN (some (z,1))) (h1:-9223372036854775808≤z) (h2:z≤9223372036854775807) (w:World) :
  Calls Tryz.prog 19 #[.int .i64 z] w fun e w'=>e=.returned (.agg cN.toArray)∧Below w.heap.size w w':=by
 have V_cN:=hid (show cN=nm (decide (z<0)) z.natAbs false 1 0 from hN)
 obtain ⟨cR,V_cR⟩:∃ c:List Value,Hid (c=rat (decide (z<0)) z.natAbs false 1):=⟨_,hid rfl⟩
 obtain ⟨cz,V_cz⟩:∃ c:List Value,Hid (c=nm false 0 false 0 0):=⟨_,hid rfl⟩
 have HW:=hid (qyI (cr:=cR) (z:=z) V_cR.out h1 h2)
 clear hN h1 h2
 obtain ⟨B0,hB0⟩:∃ B,B=w.heap.size:=⟨_,rfl⟩
 obtain ⟨w0,hw0⟩:∃ w0,w0=(w.alloc (.cells Tryz.zeroCells44 44)):=⟨_,rfl⟩
 have AB0:=hid (show At w0 B0 0 cz by rw [hw0];exact (show At (w.alloc (.cells Tryz.zeroCells44 44)) B0 0 cz from (by rw [Tryz.zeroN,V_cz.out];exact At.fresh _ (nm false 0 false 0 0) _ (by simp [hB0]))))
 have FR:=hid (show Fr B0 w w0 by rw [hw0,hB0];exact (Fr.start w).alloc _)
 have FR0:=hid FR.out.le
 have hZB0:B0≤B0:=Nat.le_refl _
 have HB0:=hid hB0
 go_enter Tryz.func19,Tryz.ntmps19
 go_upto_region 1 with fail
 rw [←hw0,←hB0]
 clear hw0 hB0
 refine qwf [⟨false,0,2,3,B0,0,44,5,cN,0,cN,[]⟩] [(3,.int .i64 z),(4,.agg cR.toArray),(5,.agg cN.toArray)] _ (by simp only [zz4,zz5,zq];rfl) (by kernel_rfl) (by kernel_rfl) ?_ ?_ ?_ ?_ ?_ ?_ ?_
 ·intro W' hW'
  refine fxo ?_ ?_;(go_big_quiet_step (fail);(try simp only [zq]);exact wqn rfl)
  refine fxo ?_ ?_;(go_big_quiet_step ((go_at_call 44;exact qaA (HW.out _)));(try simp only [zq]);exact wqn rfl)
  refine fxo (wqB rfl _ _ rfl _ rfl _ (qgF V_cR.out V_cN.out) (wqn (by simp only [zq]))) ?_
  refine fxs (by rfl) ?_
  exact fxn
 ·intro W' hK'
  first|(refine fxo ?_ ?_;(go_big_quiet_step (fail);(try simp only [zq]);exact wqn rfl))|(refine fxs (by kernel_rfl) ?_)
  refine fxs (by kernel_rfl) ?_
  refine fxo (wqB rfl _ _ rfl _ rfl _ (qgF V_cR.out V_cN.out) (wqn (by simp only [zq]))) ?_
  refine fxs (by kernel_rfl) ?_
  exact fxn
 ·exact oP _ _ (bnc) (oN)
 ·exact oP _ _ (fun _=>⟨AB0.out.lt,rfl,At.room AB0.out (qaY V_cz.out) (qaY V_cN.out)⟩) (oN)
 ·exact uno
 ·exact oP _ _ (stw rfl (qaY V_cN.out) (qsE V_cN.out) (fun _=>rfl)) (oN)
 intro β wx1 E
 replace FR:=hid (FR.out.flow E (oP _ _ (fun _=>(by show B0≤B0;omega)) (oN)))
 replace AB0:=hid (show At wx1 B0 0 cN from E.atOld mms rfl AB0.out.lt)
 simp only [nP,zr,zq]
 replace FR0:=hid FR.out.le
 clear E
 go_wp2_with fail
 have hld:=AB0.out.read (P:=Tryz.prog) Tryz.underlying44 rfl (qaY V_cN.out)
 refine bodyPost_ret (v:=.agg cN.toArray) (by simp [results,Tryz.results19,asAddr,hld]) rfl ?_
 exact ⟨rfl,fend HB0 FR⟩
theorem eOf {cr cN:List Value} {n m:Bool} {p q:Nat} (h:cr=rat n p m q) (hN:cN=nm n p m q 0) (w:World) :
  Calls Tryz.prog 40 #[.agg cr.toArray] w fun e w'=>e=.returned (.agg cN.toArray)∧Below w.heap.size w w':=by
 have V_cr:=hid h
 have V_cN:=hid hN
 obtain ⟨cz,V_cz⟩:∃ c:List Value,Hid (c=nm false 0 false 0 0):=⟨_,hid rfl⟩
 clear h hN
 obtain ⟨B0,hB0⟩:∃ B,B=w.heap.size:=⟨_,rfl⟩
 obtain ⟨B1,hB1⟩:∃ B,B=w.heap.size+1:=⟨_,rfl⟩
 obtain ⟨w0,hw0⟩:∃ w0,w0=((w.alloc (.cells cr.toArray 27)).alloc (.cells Tryz.zeroCells44 44)):=⟨_,rfl⟩
 have AB0:=hid (show At w0 B0 0 cr by rw [hw0];exact ((show At (w.alloc (.cells cr.toArray 27)) B0 0 cr from At.fresh _ cr _ (by simp [hB0])).alloc _))
 have AB1:=hid (show At w0 B1 0 cz by rw [hw0];exact (show At ((w.alloc (.cells cr.toArray 27)).alloc (.cells Tryz.zeroCells44 44)) B1 0 cz from (by rw [Tryz.zeroN,V_cz.out];exact At.fresh _ (nm false 0 false 0 0) _ (by simp [hB1]))))
 have FR:=hid (show Fr B0 w w0 by rw [hw0,hB0];exact ((Fr.start w).alloc _).alloc _)
 have FR0:=hid FR.out.le
 have l01:B0<B1:=by omega
 have hZB1:B0≤B1:=by omega
 have hZB0:B0≤B0:=Nat.le_refl _
 have HB0:=hid hB0
 go_enter Tryz.func40,Tryz.ntmps40
 go_upto_region 1 with fail
 rw [←hw0,←hB1,←hB0]
 clear hw0 hB0 hB1
 refine qwf [⟨false,0,2,2,B1,0,44,4,cN,0,cN,[]⟩] [(3,.agg cr.toArray),(4,.agg cN.toArray)] _ (by simp only [zz4,zz5,zq];rfl) (by kernel_rfl) (by kernel_rfl) ?_ ?_ ?_ ?_ ?_ ?_ ?_
 ·intro W' hW'
  have rd0:=AB0.out.below hW'
  refine fxo (wlg (by rfl) rfl rfl rd0 Tryz.underlying27 rfl (qR V_cr.out) (wqn (by simp only [zq]))) ?_
  refine fxo (wqB rfl _ _ rfl _ rfl _ (qgF V_cr.out V_cN.out) (wqn (by simp only [zq]))) ?_
  refine fxs (by rfl) ?_
  exact fxn
 ·intro W' hK'
  have rd0:=At.keep hK' AB0.out (oP _ _ (fun _=>(by show B1≠B0;omega)) (oN))
  refine fxo (wlg (by rfl) rfl rfl rd0 Tryz.underlying27 rfl (qR V_cr.out) (wqn (by simp only [zq]))) ?_
  refine fxo (wqB rfl _ _ rfl _ rfl _ (qgF V_cr.out V_cN.out) (wqn (by simp only [zq]))) ?_
  refine fxs (by kernel_rfl) ?_
  exact fxn
 ·exact oP _ _ (bnc) (oN)
 ·exact oP _ _ (fun _=>⟨AB1.out.lt,rfl,At.room AB1.out (qaY V_cz.out) (qaY V_cN.out)⟩) (oN)
 ·exact uno
 ·exact oP _ _ (stw rfl (qaY V_cN.out) (qsE V_cN.out) (fun _=>rfl)) (oN)
 intro β wx1 E
 replace FR:=hid (FR.out.flow E (oP _ _ (fun _=>(by show B0≤B1;omega)) (oN)))
 replace AB0:=hid (At.flow E AB0.out (oP _ _ (fun _=>(by show B1≠B0;omega)) (oN)))
 replace AB1:=hid (show At wx1 B1 0 cN from E.atOld mms rfl AB1.out.lt)
 simp only [nP,zr,zq]
 replace FR0:=hid FR.out.le
 clear E
 go_wp2_with fail
 have hld:=AB1.out.read (P:=Tryz.prog) Tryz.underlying44 rfl (qaY V_cN.out)
 refine bodyPost_ret (v:=.agg cN.toArray) (by simp [results,Tryz.results40,asAddr,hld]) rfl ?_
 exact ⟨rfl,fend HB0 FR⟩
theorem qzP {cN:List Value} {x y:Int} {d:Nat} (hy:y=(d:Int)) (hd:d≠0) (hN:cN=resN (mkQ x d)) (h1:-9223372036854775808≤x) (h2:x≤9223372036854775807) (h3:y≤9223372036854775807) (w:World) :
  Calls Tryz.prog 22 #[.int .i64 x,.int .i64 y] w fun e w'=>e=.returned (.agg cN.toArray)∧Below w.heap.size w w':=by
 obtain ⟨cR,hR⟩:∃ c,c=resR (mkQ x d):=⟨_,rfl⟩
 obtain ⟨code,hc⟩:∃ c,c=resE (mkQ x d):=⟨_,rfl⟩
 obtain ⟨rn,rp,rm,rq,hcR⟩:∃ rn rp rm rq,cR=rat rn rp rm rq:=by
  rw [hR]
  cases mkQ x d with
  | none=>exact ⟨_,_,_,_,rfl⟩
  | some r=>exact ⟨_,_,_,_,rfl⟩
 have V_cR:=hid hcR
 have V_cN:=hid (show cN=nm rn rp rm rq code by rw [hN];unfold resN nm;rw [←hR,←hc,hcR])
 obtain ⟨cz,V_cz⟩:∃ c:List Value,Hid (c=nm false 0 false 0 0):=⟨_,hid rfl⟩
 have HO:=hid (rofQ (cR:=cR) (code:=code) hy hd hR hc h1 h2 h3)
 clear hy hd hN h1 h2 h3 hR hc hcR
 obtain ⟨B0,hB0⟩:∃ B,B=w.heap.size:=⟨_,rfl⟩
 obtain ⟨w0,hw0⟩:∃ w0,w0=(w.alloc (.cells Tryz.zeroCells44 44)):=⟨_,rfl⟩
 have AB0:=hid (show At w0 B0 0 cz by rw [hw0];exact (show At (w.alloc (.cells Tryz.zeroCells44 44)) B0 0 cz from (by rw [Tryz.zeroN,V_cz.out];exact At.fresh _ (nm false 0 false 0 0) _ (by simp [hB0]))))
 have FR:=hid (show Fr B0 w w0 by rw [hw0,hB0];exact (Fr.start w).alloc _)
 have FR0:=hid FR.out.le
 have hZB0:B0≤B0:=Nat.le_refl _
 have HB0:=hid hB0
 go_enter Tryz.func22,Tryz.ntmps22
 go_upto_region 1 with fail
 rw [←hw0,←hB0]
 clear hw0 hB0
 refine wfn [⟨true,6,5,7,0,0,27,11,cR,0,cR,[]⟩] [(8,.int .i64 x),(9,.int .i64 y),(10,.tuple #[.agg cR.toArray,.int .i64 code]),(7,.tuple #[.agg cR.toArray,.int .i64 code]),(11,.agg cR.toArray),(12,.int .i64 code),(6,.int .i64 code)] _ (by simp only [zz4,zz5,zq];rfl) (by kernel_rfl) (by kernel_rfl) rfl ?_ ?_ ?_ ?_
 ·intro W' hW'
  iterate 2 (refine fxo ?_ ?_;(go_big_quiet_step (fail);(try simp only [zq]);exact wqn rfl))
  refine fxo ?_ ?_;(go_big_quiet_step ((go_at_call 48;exact qaA (HO.out _)));(try simp only [zq]);exact wqn rfl)
  iterate 3 (refine fxo ?_ ?_;(go_big_quiet_step (fail);(try simp only [zq]);exact wqn rfl))
  iterate 2 (refine fxs (by rfl) ?_)
  refine fxo ?_ ?_;(go_big_quiet_step (fail);(try simp only [zq]);exact wqn rfl)
  exact fxn
 ·exact oP _ _ (Tryz.alR (qR V_cR.out)) (oN)
 ·exact oP _ _ (stw rfl (qR V_cR.out) (qhE V_cR.out) (fun _=>rfl)) (oN)
 intro β wx1 E
 replace FR:=hid (FR.out.fnw E rfl)
 obtain ⟨b5,hb5⟩:∃ b,b=β 6:=⟨_,rfl⟩
 have eb5:=E.atNew mms rfl
 simp only at eb5
 rw [←hb5] at eb5
 have lB0_b5:B0<b5:=by have h1:=eb5.1;have h2:=AB0.out.lt;omega
 have hZb5:B0≤b5:=by have h1:=eb5.1;have h2:=FR0.out;omega
 replace AB0:=hid (AB0.out.fnw E rfl)
 have Ab5:=hid eb5.2
 simp only [nP,zr,zq]
 rw [←hb5]
 replace FR0:=hid FR.out.le
 clear E eb5 hb5
 go_upto_region 2 with fail
 refine qwf [⟨false,0,4,3,B0,0,44,15,cN,0,cN,[]⟩] [(13,.agg cR.toArray),(14,.int .i64 code),(15,.agg cN.toArray)] _ (by simp only [zz4,zz5,zq];rfl) (by kernel_rfl) (by kernel_rfl) ?_ ?_ ?_ ?_ ?_ ?_ ?_
 ·intro W' hW'
  have rd0:=Ab5.out.below hW'
  refine fxo (wlg (by rfl) rfl rfl rd0 Tryz.underlying27 rfl (qR V_cR.out) (wqn (by simp only [zq]))) ?_
  refine fxo ?_ ?_;(go_big_quiet_step (fail);(try simp only [zq]);exact wqn rfl)
  refine fxo (wqB rfl _ _ rfl _ rfl _ (qeX V_cR.out V_cN.out) (wqn (by simp only [zq]))) ?_
  refine fxs (by rfl) ?_
  exact fxn
 ·intro W' hK'
  have rd0:=At.keep hK' Ab5.out (oP _ _ (fun _=>(by show B0≠b5;omega)) (oN))
  refine fxo (wlg (by rfl) rfl rfl rd0 Tryz.underlying27 rfl (qR V_cR.out) (wqn (by simp only [zq]))) ?_
  first|(refine fxo ?_ ?_;(go_big_quiet_step (fail);(try simp only [zq]);exact wqn rfl))|(refine fxs (by kernel_rfl) ?_)
  refine fxo (wqB rfl _ _ rfl _ rfl _ (qeX V_cR.out V_cN.out) (wqn (by simp only [zq]))) ?_
  refine fxs (by kernel_rfl) ?_
  exact fxn
 ·exact oP _ _ (bnc) (oN)
 ·exact oP _ _ (fun _=>⟨AB0.out.lt,rfl,At.room AB0.out (qaY V_cz.out) (qaY V_cN.out)⟩) (oN)
 ·exact uno
 ·exact oP _ _ (stw rfl (qaY V_cN.out) (qsE V_cN.out) (fun _=>rfl)) (oN)
 intro β wx2 E
 replace FR:=hid (FR.out.flow E (oP _ _ (fun _=>(by show B0≤B0;omega)) (oN)))
 replace AB0:=hid (show At wx2 B0 0 cN from E.atOld mms rfl AB0.out.lt)
 replace Ab5:=hid (At.flow E Ab5.out (oP _ _ (fun _=>(by show B0≠b5;omega)) (oN)))
 simp only [nP,zr,zq]
 replace FR0:=hid FR.out.le
 clear E
 go_wp2_with fail
 have hld:=AB0.out.read (P:=Tryz.prog) Tryz.underlying44 rfl (qaY V_cN.out)
 refine bodyPost_ret (v:=.agg cN.toArray) (by simp [results,Tryz.results22,asAddr,hld]) rfl ?_
 exact ⟨rfl,fend HB0 FR⟩
theorem qxV {ca cb:List Value} {n1 m1 n2 m2:Bool} {p1 q1 p2 q2:Nat} {e1 e2 r:Int} (ha:ca=nm n1 p1 m1 q1 e1) (hb:cb=nm n2 p2 m2 q2 e2) (hr:r=if e1=0 then e2 else e1) (w:World) :
  Calls Tryz.prog 45 #[.agg ca.toArray,.agg cb.toArray] w fun e w'=>e=.returned (.int .i64 r)∧Below w.heap.size w w':=by
 have V_ca:=hid ha
 have V_cb:=hid hb
 clear ha hb
 obtain ⟨B0,hB0⟩:∃ B,B=w.heap.size:=⟨_,rfl⟩
 obtain ⟨B1,hB1⟩:∃ B,B=w.heap.size+1:=⟨_,rfl⟩
 obtain ⟨w0,hw0⟩:∃ w0,w0=((w.alloc (.cells ca.toArray 44)).alloc (.cells cb.toArray 44)):=⟨_,rfl⟩
 have AB0:=hid (show At w0 B0 0 ca by rw [hw0];exact ((show At (w.alloc (.cells ca.toArray 44)) B0 0 ca from At.fresh _ ca _ (by simp [hB0])).alloc _))
 have AB1:=hid (show At w0 B1 0 cb by rw [hw0];exact (show At ((w.alloc (.cells ca.toArray 44)).alloc (.cells cb.toArray 44)) B1 0 cb from At.fresh _ cb _ (by simp [hB1])))
 have FR:=hid (show Fr B0 w w0 by rw [hw0,hB0];exact ((Fr.start w).alloc _).alloc _)
 have FR0:=hid FR.out.le
 have l01:B0<B1:=by omega
 have hZB1:B0≤B1:=by omega
 have hZB0:B0≤B0:=Nat.le_refl _
 have HB0:=hid hB0
 go_enter Tryz.func45,Tryz.ntmps45
 go_upto_region 1 with fail
 rw [←hw0,←hB1,←hB0]
 clear hw0 hB0 hB1
 have c0:=AB0.out.err V_ca.out
 have c1:=AB1.out.err V_cb.out
 by_cases h:e1=0
 ·rw [if_pos h] at hr
  subst hr
  subst h
  go_wp2
  go_ret
  exact ⟨rfl,fend HB0 FR⟩
 ·rw [if_neg h] at hr
  subst hr
  have hne:(r==0)=false:=beq_eq_false_iff_ne.2 h
  go_wp2
  go_ret
  exact ⟨rfl,fend HB0 FR⟩
theorem jbH {ca cb cN:List Value} {a b:Option Qn} (h1:ca=resN a) (h2:cb=resN b) (ha:okN a) (hb:okN b) (hN:cN=resN (opt2 mulQ a b)) (w:World) :
  Calls Tryz.prog 21 #[.agg ca.toArray,.agg cb.toArray] w fun e w'=>e=.returned (.agg cN.toArray)∧Below w.heap.size w w':=by
 obtain ⟨n1,p1,m1,q1,e1,hca⟩:∃ n p m q e,ca=nm n p m q e:=by rw [h1];exact qjG a
 obtain ⟨n2,p2,m2,q2,e2,hcb⟩:∃ n p m q e,cb=nm n p m q e:=by rw [h2];exact qjG b
 have V_ca:=hid hca
 have V_cb:=hid hcb
 obtain ⟨cz,V_cz⟩:∃ c:List Value,Hid (c=nm false 0 false 0 0):=⟨_,hid rfl⟩
 obtain ⟨r,hr⟩:∃ r:Int,r=if e1=0 then e2 else e1:=⟨_,rfl⟩
 have HF:=hid (qxV V_ca.out V_cb.out hr)
 have ee:∀ (o:Option Qn) (n:Bool) (p:Nat) (m:Bool) (q:Nat) (e:Int),resN o=nm n p m q e→e=resE o:=by
  intro o n p m q e h
  have:=congrArg (fun l=>l[66]?) h
  unfold resN nm at this
  have hl:(resR o).length=66:=by cases o<;>exact qbP _ _ _ _
  try simp only at this
  rw [List.getElem?_append_right (by rw [hl];omega),hl,List.getElem?_append_right (by rw [qbP];omega),qbP] at this
  simp at this
  exact this.symm
 have he1:=ee a _ _ _ _ _ (by rw [←h1];exact hca)
 have he2:=ee b _ _ _ _ _ (by rw [←h2];exact hcb)
 clear ee
 have hbad:∀ (hn:opt2 mulQ a b=none∧r=10),Calls Tryz.prog 21 #[.agg ca.toArray,.agg cb.toArray] w (fun e w'=>e=.returned (.agg cN.toArray)∧Below w.heap.size w w'):=by
  rintro ⟨hn,hr10⟩
  have V_cN:=hid (show cN=nm false 0 false 0 10 by rw [hN,hn];rfl)
  subst hr10
  clear hn hN h1 h2 ha hb hca hcb he1 he2 hr
  obtain ⟨B0,hB0⟩:∃ B,B=w.heap.size:=⟨_,rfl⟩
  obtain ⟨B1,hB1⟩:∃ B,B=w.heap.size+1:=⟨_,rfl⟩
  obtain ⟨B2,hB2⟩:∃ B,B=w.heap.size+1+1:=⟨_,rfl⟩
  obtain ⟨w0,hw0⟩:∃ w0,w0=(((w.alloc (.cells ca.toArray 44)).alloc (.cells cb.toArray 44)).alloc (.cells Tryz.zeroCells44 44)):=⟨_,rfl⟩
  have AB0:=hid (show At w0 B0 0 ca by rw [hw0];exact (((show At (w.alloc (.cells ca.toArray 44)) B0 0 ca from At.fresh _ ca _ (by simp [hB0])).alloc _).alloc _))
  have AB1:=hid (show At w0 B1 0 cb by rw [hw0];exact ((show At ((w.alloc (.cells ca.toArray 44)).alloc (.cells cb.toArray 44)) B1 0 cb from At.fresh _ cb _ (by simp [hB1])).alloc _))
  have AB2:=hid (show At w0 B2 0 cz by rw [hw0];exact (show At (((w.alloc (.cells ca.toArray 44)).alloc (.cells cb.toArray 44)).alloc (.cells Tryz.zeroCells44 44)) B2 0 cz from (by rw [Tryz.zeroN,V_cz.out];exact At.fresh _ (nm false 0 false 0 0) _ (by simp [hB2]))))
  have FR:=hid (show Fr B0 w w0 by rw [hw0,hB0];exact (((Fr.start w).alloc _).alloc _).alloc _)
  have FR0:=hid FR.out.le
  have l01:B0<B1:=by omega
  have hZB1:B0≤B1:=by omega
  have l12:B1<B2:=by omega
  have hZB2:B0≤B2:=by omega
  have hZB0:B0≤B0:=Nat.le_refl _
  have HB0:=hid hB0
  go_enter Tryz.func21,Tryz.ntmps21
  go_upto_region 1 with fail
  rw [←hw0,←hB2,←hB1,←hB0]
  clear hw0 hB0 hB1 hB2
  refine wfn [] [(8,.agg ca.toArray),(9,.agg cb.toArray),(10,.int .i64 10),(5,.int .i64 10)] _ (by simp only [zz4,zz5,zq];rfl) (by kernel_rfl) (by kernel_rfl) rfl ?_ ?_ ?_ ?_
  ·intro W' hW'
   have rd0:=AB0.out.below hW'
   have rd1:=AB1.out.below hW'
   refine fxo (wlg (by rfl) rfl rfl rd0 Tryz.underlying44 rfl (qaY V_ca.out) (wqn (by simp only [zq]))) ?_
   refine fxo (wlg (by rfl) rfl rfl rd1 Tryz.underlying44 rfl (qaY V_cb.out) (wqn (by simp only [zq]))) ?_
   refine fxo ?_ ?_;(go_big_quiet_step ((go_at_call 45;exact qaA (HF.out _)));(try simp only [zq]);exact wqn rfl)
   refine fxo ?_ ?_;(go_big_quiet_step (fail);(try simp only [zq]);exact wqn rfl)
   exact fxn
  ·exact oN
  ·exact oN
  intro β wx1 E
  replace FR:=hid (FR.out.fnw E rfl)
  replace AB0:=hid (AB0.out.fnw E rfl)
  replace AB1:=hid (AB1.out.fnw E rfl)
  replace AB2:=hid (AB2.out.fnw E rfl)
  have hE:=E.below rfl
  simp only [nP,zr,zq]
  replace FR0:=hid FR.out.le
  clear E
  go_upto_region 3 with fail
  refine qwf [⟨false,0,4,2,B2,0,44,14,cN,0,cN,[]⟩] [(13,.int .i64 10),(14,.agg cN.toArray)] _ (by simp only [zz4,zz5,zq];rfl) (by kernel_rfl) (by kernel_rfl) ?_ ?_ ?_ ?_ ?_ ?_ ?_
  ·intro W' hW'
   refine fxo ?_ ?_;(go_big_quiet_step (fail);(try simp only [zq]);exact wqn rfl)
   refine fxo (wqB rfl _ _ rfl _ rfl _ (qgE V_cN.out) (wqn (by simp only [zq]))) ?_
   refine fxs (by rfl) ?_
   exact fxn
  ·intro W' hK'
   first|(refine fxo ?_ ?_;(go_big_quiet_step (fail);(try simp only [zq]);exact wqn rfl))|(refine fxs (by kernel_rfl) ?_)
   refine fxo (wqB rfl _ _ rfl _ rfl _ (qgE V_cN.out) (wqn (by simp only [zq]))) ?_
   refine fxs (by kernel_rfl) ?_
   exact fxn
  ·exact oP _ _ (bnc) (oN)
  ·exact oP _ _ (fun _=>⟨AB2.out.lt,rfl,At.room AB2.out (qaY V_cz.out) (qaY V_cN.out)⟩) (oN)
  ·exact uno
  ·exact oP _ _ (stw rfl (qaY V_cN.out) (qsE V_cN.out) (fun _=>rfl)) (oN)
  intro β wx2 E
  replace FR:=hid (FR.out.flow E (oP _ _ (fun _=>(by show B0≤B2;omega)) (oN)))
  replace AB0:=hid (At.flow E AB0.out (oP _ _ (fun _=>(by show B2≠B0;omega)) (oN)))
  replace AB1:=hid (At.flow E AB1.out (oP _ _ (fun _=>(by show B2≠B1;omega)) (oN)))
  replace AB2:=hid (show At wx2 B2 0 cN from E.atOld mms rfl AB2.out.lt)
  simp only [nP,zr,zq]
  replace FR0:=hid FR.out.le
  clear E
  go_wp2_with fail
  have hld:=AB2.out.read (P:=Tryz.prog) Tryz.underlying44 rfl (qaY V_cN.out)
  refine bodyPost_ret (v:=.agg cN.toArray) (by simp [results,Tryz.results21,asAddr,hld]) rfl ?_
  exact ⟨rfl,fend HB0 FR⟩
 cases a with
 | none=>exact hbad ⟨rfl,by rw [hr,he1];rfl⟩
 | some x =>
  cases b with
  | none=>exact hbad ⟨rfl,by rw [hr,he1,he2];rfl⟩
  | some y =>
   have hr0:r=0:=by rw [hr,he1,he2];rfl
   subst hr0
   have e1z:e1=0:=he1
   have e2z:e2=0:=he2
   clear hbad hr hca hcb he1 he2
   obtain ⟨cR,hR⟩:∃ c,c=resR (mulQ x y):=⟨_,rfl⟩
   obtain ⟨code,hc⟩:∃ c,c=resE (mulQ x y):=⟨_,rfl⟩
   obtain ⟨rn,rp,rm,rq,hcR⟩:∃ rn rp rm rq,cR=rat rn rp rm rq:=by
    rw [hR]
    cases mulQ x y with
    | none=>exact ⟨_,_,_,_,rfl⟩
    | some r=>exact ⟨_,_,_,_,rfl⟩
   have V_cR:=hid hcR
   have V_cN:=hid (show cN=nm rn rp rm rq code by rw [hN];unfold resN nm;rw [show opt2 mulQ (some x) (some y)=mulQ x y from rfl,←hR,←hc,hcR])
   have V_cx:=hid h1
   have V_cy:=hid h2
   obtain ⟨va,V_va⟩:∃ c:List Value,Hid (c=rat (decide (x.1<0)) x.1.natAbs false x.2):=⟨_,hid rfl⟩
   obtain ⟨vb,V_vb⟩:∃ c:List Value,Hid (c=rat (decide (y.1<0)) y.1.natAbs false y.2):=⟨_,hid rfl⟩
   have HM:=hid (rmulQ (ca:=va) (cb:=vb) (cR:=cR) (code:=code) V_va.out V_vb.out (ha x rfl) (hb y rfl) hR hc)
   clear hN h1 h2 ha hb hR hc hcR e1z e2z
   obtain ⟨B0,hB0⟩:∃ B,B=w.heap.size:=⟨_,rfl⟩
   obtain ⟨B1,hB1⟩:∃ B,B=w.heap.size+1:=⟨_,rfl⟩
   obtain ⟨B2,hB2⟩:∃ B,B=w.heap.size+1+1:=⟨_,rfl⟩
   obtain ⟨w0,hw0⟩:∃ w0,w0=(((w.alloc (.cells ca.toArray 44)).alloc (.cells cb.toArray 44)).alloc (.cells Tryz.zeroCells44 44)):=⟨_,rfl⟩
   have AB0:=hid (show At w0 B0 0 ca by rw [hw0];exact (((show At (w.alloc (.cells ca.toArray 44)) B0 0 ca from At.fresh _ ca _ (by simp [hB0])).alloc _).alloc _))
   have AB1:=hid (show At w0 B1 0 cb by rw [hw0];exact ((show At ((w.alloc (.cells ca.toArray 44)).alloc (.cells cb.toArray 44)) B1 0 cb from At.fresh _ cb _ (by simp [hB1])).alloc _))
   have AB2:=hid (show At w0 B2 0 cz by rw [hw0];exact (show At (((w.alloc (.cells ca.toArray 44)).alloc (.cells cb.toArray 44)).alloc (.cells Tryz.zeroCells44 44)) B2 0 cz from (by rw [Tryz.zeroN,V_cz.out];exact At.fresh _ (nm false 0 false 0 0) _ (by simp [hB2]))))
   have FR:=hid (show Fr B0 w w0 by rw [hw0,hB0];exact (((Fr.start w).alloc _).alloc _).alloc _)
   have FR0:=hid FR.out.le
   have l01:B0<B1:=by omega
   have hZB1:B0≤B1:=by omega
   have l12:B1<B2:=by omega
   have hZB2:B0≤B2:=by omega
   have hZB0:B0≤B0:=Nat.le_refl _
   have HB0:=hid hB0
   go_enter Tryz.func21,Tryz.ntmps21
   go_upto_region 1 with fail
   rw [←hw0,←hB2,←hB1,←hB0]
   clear hw0 hB0 hB1 hB2
   refine wfn [] [(8,.agg ca.toArray),(9,.agg cb.toArray),(10,.int .i64 0),(5,.int .i64 0)] _ (by simp only [zz4,zz5,zq];rfl) (by kernel_rfl) (by kernel_rfl) rfl ?_ ?_ ?_ ?_
   ·intro W' hW'
    have rd0:=AB0.out.below hW'
    have rd1:=AB1.out.below hW'
    refine fxo (wlg (by rfl) rfl rfl rd0 Tryz.underlying44 rfl (qaY V_ca.out) (wqn (by simp only [zq]))) ?_
    refine fxo (wlg (by rfl) rfl rfl rd1 Tryz.underlying44 rfl (qaY V_cb.out) (wqn (by simp only [zq]))) ?_
    refine fxo ?_ ?_;(go_big_quiet_step ((go_at_call 45;exact qaA (HF.out _)));(try simp only [zq]);exact wqn rfl)
    refine fxo ?_ ?_;(go_big_quiet_step (fail);(try simp only [zq]);exact wqn rfl)
    exact fxn
   ·exact oN
   ·exact oN
   intro β wx1 E
   replace FR:=hid (FR.out.fnw E rfl)
   replace AB0:=hid (AB0.out.fnw E rfl)
   replace AB1:=hid (AB1.out.fnw E rfl)
   replace AB2:=hid (AB2.out.fnw E rfl)
   have hE:=E.below rfl
   simp only [nP,zr,zq]
   replace FR0:=hid FR.out.le
   clear E
   go_upto_region 4 with fail
   have AB0_v:=hid (AB0.out.val (e:=0) V_cx.out V_va.out)
   have AB1_v:=hid (AB1.out.val (e:=0) V_cy.out V_vb.out)
   refine wfn [⟨true,8,6,9,0,0,27,21,cR,0,cR,[]⟩] [(16,.pointer (some ⟨B0,0,none⟩)),(17,.agg va.toArray),(18,.pointer (some ⟨B1,0,none⟩)),(19,.agg vb.toArray),(20,.tuple #[.agg cR.toArray,.int .i64 code]),(15,.tuple #[.agg cR.toArray,.int .i64 code]),(21,.agg cR.toArray),(22,.int .i64 code),(7,.int .i64 code)] _ (by simp only [zz4,zz5,zq];rfl) (by kernel_rfl) (by kernel_rfl) rfl ?_ ?_ ?_ ?_
   ·intro W' hW'
    have rd0:=AB0_v.out.below hW'
    have rd1:=AB1_v.out.below hW'
    refine fxo ?_ ?_;(go_big_quiet_step (fail);(try simp only [zq]);exact wqn rfl)
    refine fxo (wlg (by rfl) rfl rfl rd0 Tryz.underlying27 rfl (qR V_va.out) (wqn (by simp only [zq]))) ?_
    refine fxo ?_ ?_;(go_big_quiet_step (fail);(try simp only [zq]);exact wqn rfl)
    refine fxo (wlg (by rfl) rfl rfl rd1 Tryz.underlying27 rfl (qR V_vb.out) (wqn (by simp only [zq]))) ?_
    refine fxo ?_ ?_;(go_big_quiet_step ((go_at_call 47;exact qaA (HM.out _)));(try simp only [zq]);exact wqn rfl)
    iterate 3 (refine fxo ?_ ?_;(go_big_quiet_step (fail);(try simp only [zq]);exact wqn rfl))
    iterate 2 (refine fxs (by rfl) ?_)
    refine fxo ?_ ?_;(go_big_quiet_step (fail);(try simp only [zq]);exact wqn rfl)
    exact fxn
   ·exact oP _ _ (Tryz.alR (qR V_cR.out)) (oN)
   ·exact oP _ _ (stw rfl (qR V_cR.out) (qhE V_cR.out) (fun _=>rfl)) (oN)
   intro β wx2 E
   replace FR:=hid (FR.out.fnw E rfl)
   obtain ⟨b6,hb6⟩:∃ b,b=β 8:=⟨_,rfl⟩
   have eb6:=E.atNew mms rfl
   simp only at eb6
   rw [←hb6] at eb6
   have lB0_b6:B0<b6:=by have h1:=eb6.1;have h2:=AB0.out.lt;omega
   have lB1_b6:B1<b6:=by have h1:=eb6.1;have h2:=AB1.out.lt;omega
   have lB2_b6:B2<b6:=by have h1:=eb6.1;have h2:=AB2.out.lt;omega
   have hZb6:B0≤b6:=by have h1:=eb6.1;have h2:=FR0.out;omega
   replace AB0:=hid (AB0.out.fnw E rfl)
   replace AB1:=hid (AB1.out.fnw E rfl)
   replace AB2:=hid (AB2.out.fnw E rfl)
   replace AB0_v:=hid (AB0_v.out.fnw E rfl)
   replace AB1_v:=hid (AB1_v.out.fnw E rfl)
   have Ab6:=hid eb6.2
   simp only [nP,zr,zq]
   rw [←hb6]
   replace FR0:=hid FR.out.le
   clear E eb6 hb6
   go_upto_region 5 with fail
   refine qwf [⟨false,0,4,3,B2,0,44,25,cN,0,cN,[]⟩] [(23,.agg cR.toArray),(24,.int .i64 code),(25,.agg cN.toArray)] _ (by simp only [zz4,zz5,zq];rfl) (by kernel_rfl) (by kernel_rfl) ?_ ?_ ?_ ?_ ?_ ?_ ?_
   ·intro W' hW'
    have rd0:=Ab6.out.below hW'
    refine fxo (wlg (by rfl) rfl rfl rd0 Tryz.underlying27 rfl (qR V_cR.out) (wqn (by simp only [zq]))) ?_
    refine fxo ?_ ?_;(go_big_quiet_step (fail);(try simp only [zq]);exact wqn rfl)
    refine fxo (wqB rfl _ _ rfl _ rfl _ (qeX V_cR.out V_cN.out) (wqn (by simp only [zq]))) ?_
    refine fxs (by rfl) ?_
    exact fxn
   ·intro W' hK'
    have rd0:=At.keep hK' Ab6.out (oP _ _ (fun _=>(by show B2≠b6;omega)) (oN))
    refine fxo (wlg (by rfl) rfl rfl rd0 Tryz.underlying27 rfl (qR V_cR.out) (wqn (by simp only [zq]))) ?_
    first|(refine fxo ?_ ?_;(go_big_quiet_step (fail);(try simp only [zq]);exact wqn rfl))|(refine fxs (by kernel_rfl) ?_)
    refine fxo (wqB rfl _ _ rfl _ rfl _ (qeX V_cR.out V_cN.out) (wqn (by simp only [zq]))) ?_
    refine fxs (by kernel_rfl) ?_
    exact fxn
   ·exact oP _ _ (bnc) (oN)
   ·exact oP _ _ (fun _=>⟨AB2.out.lt,rfl,At.room AB2.out (qaY V_cz.out) (qaY V_cN.out)⟩) (oN)
   ·exact uno
   ·exact oP _ _ (stw rfl (qaY V_cN.out) (qsE V_cN.out) (fun _=>rfl)) (oN)
   intro β wx3 E
   replace FR:=hid (FR.out.flow E (oP _ _ (fun _=>(by show B0≤B2;omega)) (oN)))
   replace AB0:=hid (At.flow E AB0.out (oP _ _ (fun _=>(by show B2≠B0;omega)) (oN)))
   replace AB1:=hid (At.flow E AB1.out (oP _ _ (fun _=>(by show B2≠B1;omega)) (oN)))
   replace AB2:=hid (show At wx3 B2 0 cN from E.atOld mms rfl AB2.out.lt)
   replace AB0_v:=hid (At.flow E AB0_v.out (oP _ _ (fun _=>(by show B2≠B0;omega)) (oN)))
   replace AB1_v:=hid (At.flow E AB1_v.out (oP _ _ (fun _=>(by show B2≠B1;omega)) (oN)))
   replace Ab6:=hid (At.flow E Ab6.out (oP _ _ (fun _=>(by show B2≠b6;omega)) (oN)))
   simp only [nP,zr,zq]
   replace FR0:=hid FR.out.le
   clear E
   go_wp2_with fail
   have hld:=AB2.out.read (P:=Tryz.prog) Tryz.underlying44 rfl (qaY V_cN.out)
   refine bodyPost_ret (v:=.agg cN.toArray) (by simp [results,Tryz.results21,asAddr,hld]) rfl ?_
   exact ⟨rfl,fend HB0 FR⟩
theorem eAdd {ca cb cN:List Value} {a b:Option Qn} (h1:ca=resN a) (h2:cb=resN b) (ha:okN a) (hb:okN b) (hN:cN=resN (opt2 addQ a b)) (w:World) :
  Calls Tryz.prog 20 #[.agg ca.toArray,.agg cb.toArray] w fun e w'=>e=.returned (.agg cN.toArray)∧Below w.heap.size w w':=by
 obtain ⟨n1,p1,m1,q1,e1,hca⟩:∃ n p m q e,ca=nm n p m q e:=by rw [h1];exact qjG a
 obtain ⟨n2,p2,m2,q2,e2,hcb⟩:∃ n p m q e,cb=nm n p m q e:=by rw [h2];exact qjG b
 have V_ca:=hid hca
 have V_cb:=hid hcb
 obtain ⟨cz,V_cz⟩:∃ c:List Value,Hid (c=nm false 0 false 0 0):=⟨_,hid rfl⟩
 obtain ⟨r,hr⟩:∃ r:Int,r=if e1=0 then e2 else e1:=⟨_,rfl⟩
 have HF:=hid (qxV V_ca.out V_cb.out hr)
 have ee:∀ (o:Option Qn) (n:Bool) (p:Nat) (m:Bool) (q:Nat) (e:Int),resN o=nm n p m q e→e=resE o:=by
  intro o n p m q e h
  have:=congrArg (fun l=>l[66]?) h
  unfold resN nm at this
  have hl:(resR o).length=66:=by cases o<;>exact qbP _ _ _ _
  try simp only at this
  rw [List.getElem?_append_right (by rw [hl];omega),hl,List.getElem?_append_right (by rw [qbP];omega),qbP] at this
  simp at this
  exact this.symm
 have he1:=ee a _ _ _ _ _ (by rw [←h1];exact hca)
 have he2:=ee b _ _ _ _ _ (by rw [←h2];exact hcb)
 clear ee
 have hbad:∀ (hn:opt2 addQ a b=none∧r=10),Calls Tryz.prog 20 #[.agg ca.toArray,.agg cb.toArray] w (fun e w'=>e=.returned (.agg cN.toArray)∧Below w.heap.size w w'):=by
  rintro ⟨hn,hr10⟩
  have V_cN:=hid (show cN=nm false 0 false 0 10 by rw [hN,hn];rfl)
  subst hr10
  clear hn hN h1 h2 ha hb hca hcb he1 he2 hr
  obtain ⟨B0,hB0⟩:∃ B,B=w.heap.size:=⟨_,rfl⟩
  obtain ⟨B1,hB1⟩:∃ B,B=w.heap.size+1:=⟨_,rfl⟩
  obtain ⟨B2,hB2⟩:∃ B,B=w.heap.size+1+1:=⟨_,rfl⟩
  obtain ⟨w0,hw0⟩:∃ w0,w0=(((w.alloc (.cells ca.toArray 44)).alloc (.cells cb.toArray 44)).alloc (.cells Tryz.zeroCells44 44)):=⟨_,rfl⟩
  have AB0:=hid (show At w0 B0 0 ca by rw [hw0];exact (((show At (w.alloc (.cells ca.toArray 44)) B0 0 ca from At.fresh _ ca _ (by simp [hB0])).alloc _).alloc _))
  have AB1:=hid (show At w0 B1 0 cb by rw [hw0];exact ((show At ((w.alloc (.cells ca.toArray 44)).alloc (.cells cb.toArray 44)) B1 0 cb from At.fresh _ cb _ (by simp [hB1])).alloc _))
  have AB2:=hid (show At w0 B2 0 cz by rw [hw0];exact (show At (((w.alloc (.cells ca.toArray 44)).alloc (.cells cb.toArray 44)).alloc (.cells Tryz.zeroCells44 44)) B2 0 cz from (by rw [Tryz.zeroN,V_cz.out];exact At.fresh _ (nm false 0 false 0 0) _ (by simp [hB2]))))
  have FR:=hid (show Fr B0 w w0 by rw [hw0,hB0];exact (((Fr.start w).alloc _).alloc _).alloc _)
  have FR0:=hid FR.out.le
  have l01:B0<B1:=by omega
  have hZB1:B0≤B1:=by omega
  have l12:B1<B2:=by omega
  have hZB2:B0≤B2:=by omega
  have hZB0:B0≤B0:=Nat.le_refl _
  have HB0:=hid hB0
  go_enter Tryz.func20,Tryz.ntmps20
  go_upto_region 1 with fail
  rw [←hw0,←hB2,←hB1,←hB0]
  clear hw0 hB0 hB1 hB2
  refine wfn [] [(8,.agg ca.toArray),(9,.agg cb.toArray),(10,.int .i64 10),(5,.int .i64 10)] _ (by simp only [zz4,zz5,zq];rfl) (by kernel_rfl) (by kernel_rfl) rfl ?_ ?_ ?_ ?_
  ·intro W' hW'
   have rd0:=AB0.out.below hW'
   have rd1:=AB1.out.below hW'
   refine fxo (wlg (by rfl) rfl rfl rd0 Tryz.underlying44 rfl (qaY V_ca.out) (wqn (by simp only [zq]))) ?_
   refine fxo (wlg (by rfl) rfl rfl rd1 Tryz.underlying44 rfl (qaY V_cb.out) (wqn (by simp only [zq]))) ?_
   refine fxo ?_ ?_;(go_big_quiet_step ((go_at_call 45;exact qaA (HF.out _)));(try simp only [zq]);exact wqn rfl)
   refine fxo ?_ ?_;(go_big_quiet_step (fail);(try simp only [zq]);exact wqn rfl)
   exact fxn
  ·exact oN
  ·exact oN
  intro β wx1 E
  replace FR:=hid (FR.out.fnw E rfl)
  replace AB0:=hid (AB0.out.fnw E rfl)
  replace AB1:=hid (AB1.out.fnw E rfl)
  replace AB2:=hid (AB2.out.fnw E rfl)
  have hE:=E.below rfl
  simp only [nP,zr,zq]
  replace FR0:=hid FR.out.le
  clear E
  go_upto_region 3 with fail
  refine qwf [⟨false,0,4,2,B2,0,44,14,cN,0,cN,[]⟩] [(13,.int .i64 10),(14,.agg cN.toArray)] _ (by simp only [zz4,zz5,zq];rfl) (by kernel_rfl) (by kernel_rfl) ?_ ?_ ?_ ?_ ?_ ?_ ?_
  ·intro W' hW'
   refine fxo ?_ ?_;(go_big_quiet_step (fail);(try simp only [zq]);exact wqn rfl)
   refine fxo (wqB rfl _ _ rfl _ rfl _ (qgE V_cN.out) (wqn (by simp only [zq]))) ?_
   refine fxs (by rfl) ?_
   exact fxn
  ·intro W' hK'
   first|(refine fxo ?_ ?_;(go_big_quiet_step (fail);(try simp only [zq]);exact wqn rfl))|(refine fxs (by kernel_rfl) ?_)
   refine fxo (wqB rfl _ _ rfl _ rfl _ (qgE V_cN.out) (wqn (by simp only [zq]))) ?_
   refine fxs (by kernel_rfl) ?_
   exact fxn
  ·exact oP _ _ (bnc) (oN)
  ·exact oP _ _ (fun _=>⟨AB2.out.lt,rfl,At.room AB2.out (qaY V_cz.out) (qaY V_cN.out)⟩) (oN)
  ·exact uno
  ·exact oP _ _ (stw rfl (qaY V_cN.out) (qsE V_cN.out) (fun _=>rfl)) (oN)
  intro β wx2 E
  replace FR:=hid (FR.out.flow E (oP _ _ (fun _=>(by show B0≤B2;omega)) (oN)))
  replace AB0:=hid (At.flow E AB0.out (oP _ _ (fun _=>(by show B2≠B0;omega)) (oN)))
  replace AB1:=hid (At.flow E AB1.out (oP _ _ (fun _=>(by show B2≠B1;omega)) (oN)))
  replace AB2:=hid (show At wx2 B2 0 cN from E.atOld mms rfl AB2.out.lt)
  simp only [nP,zr,zq]
  replace FR0:=hid FR.out.le
  clear E
  go_wp2_with fail
  have hld:=AB2.out.read (P:=Tryz.prog) Tryz.underlying44 rfl (qaY V_cN.out)
  refine bodyPost_ret (v:=.agg cN.toArray) (by simp [results,Tryz.results20,asAddr,hld]) rfl ?_
  exact ⟨rfl,fend HB0 FR⟩
 cases a with
 | none=>exact hbad ⟨rfl,by rw [hr,he1];rfl⟩
 | some x =>
  cases b with
  | none=>exact hbad ⟨rfl,by rw [hr,he1,he2];rfl⟩
  | some y =>
   have hr0:r=0:=by rw [hr,he1,he2];rfl
   subst hr0
   have e1z:e1=0:=he1
   have e2z:e2=0:=he2
   clear hbad hr hca hcb he1 he2
   obtain ⟨cR,hR⟩:∃ c,c=resR (addQ x y):=⟨_,rfl⟩
   obtain ⟨code,hc⟩:∃ c,c=resE (addQ x y):=⟨_,rfl⟩
   obtain ⟨rn,rp,rm,rq,hcR⟩:∃ rn rp rm rq,cR=rat rn rp rm rq:=by
    rw [hR]
    cases addQ x y with
    | none=>exact ⟨_,_,_,_,rfl⟩
    | some r=>exact ⟨_,_,_,_,rfl⟩
   have V_cR:=hid hcR
   have V_cN:=hid (show cN=nm rn rp rm rq code by rw [hN];unfold resN nm;rw [show opt2 addQ (some x) (some y)=addQ x y from rfl,←hR,←hc,hcR])
   have V_cx:=hid h1
   have V_cy:=hid h2
   obtain ⟨va,V_va⟩:∃ c:List Value,Hid (c=rat (decide (x.1<0)) x.1.natAbs false x.2):=⟨_,hid rfl⟩
   obtain ⟨vb,V_vb⟩:∃ c:List Value,Hid (c=rat (decide (y.1<0)) y.1.natAbs false y.2):=⟨_,hid rfl⟩
   have HM:=hid (raddQ (ca:=va) (cb:=vb) (cR:=cR) (code:=code) V_va.out V_vb.out (ha x rfl) (hb y rfl) hR hc)
   clear hN h1 h2 ha hb hR hc hcR e1z e2z
   obtain ⟨B0,hB0⟩:∃ B,B=w.heap.size:=⟨_,rfl⟩
   obtain ⟨B1,hB1⟩:∃ B,B=w.heap.size+1:=⟨_,rfl⟩
   obtain ⟨B2,hB2⟩:∃ B,B=w.heap.size+1+1:=⟨_,rfl⟩
   obtain ⟨w0,hw0⟩:∃ w0,w0=(((w.alloc (.cells ca.toArray 44)).alloc (.cells cb.toArray 44)).alloc (.cells Tryz.zeroCells44 44)):=⟨_,rfl⟩
   have AB0:=hid (show At w0 B0 0 ca by rw [hw0];exact (((show At (w.alloc (.cells ca.toArray 44)) B0 0 ca from At.fresh _ ca _ (by simp [hB0])).alloc _).alloc _))
   have AB1:=hid (show At w0 B1 0 cb by rw [hw0];exact ((show At ((w.alloc (.cells ca.toArray 44)).alloc (.cells cb.toArray 44)) B1 0 cb from At.fresh _ cb _ (by simp [hB1])).alloc _))
   have AB2:=hid (show At w0 B2 0 cz by rw [hw0];exact (show At (((w.alloc (.cells ca.toArray 44)).alloc (.cells cb.toArray 44)).alloc (.cells Tryz.zeroCells44 44)) B2 0 cz from (by rw [Tryz.zeroN,V_cz.out];exact At.fresh _ (nm false 0 false 0 0) _ (by simp [hB2]))))
   have FR:=hid (show Fr B0 w w0 by rw [hw0,hB0];exact (((Fr.start w).alloc _).alloc _).alloc _)
   have FR0:=hid FR.out.le
   have l01:B0<B1:=by omega
   have hZB1:B0≤B1:=by omega
   have l12:B1<B2:=by omega
   have hZB2:B0≤B2:=by omega
   have hZB0:B0≤B0:=Nat.le_refl _
   have HB0:=hid hB0
   go_enter Tryz.func20,Tryz.ntmps20
   go_upto_region 1 with fail
   rw [←hw0,←hB2,←hB1,←hB0]
   clear hw0 hB0 hB1 hB2
   refine wfn [] [(8,.agg ca.toArray),(9,.agg cb.toArray),(10,.int .i64 0),(5,.int .i64 0)] _ (by simp only [zz4,zz5,zq];rfl) (by kernel_rfl) (by kernel_rfl) rfl ?_ ?_ ?_ ?_
   ·intro W' hW'
    have rd0:=AB0.out.below hW'
    have rd1:=AB1.out.below hW'
    refine fxo (wlg (by rfl) rfl rfl rd0 Tryz.underlying44 rfl (qaY V_ca.out) (wqn (by simp only [zq]))) ?_
    refine fxo (wlg (by rfl) rfl rfl rd1 Tryz.underlying44 rfl (qaY V_cb.out) (wqn (by simp only [zq]))) ?_
    refine fxo ?_ ?_;(go_big_quiet_step ((go_at_call 45;exact qaA (HF.out _)));(try simp only [zq]);exact wqn rfl)
    refine fxo ?_ ?_;(go_big_quiet_step (fail);(try simp only [zq]);exact wqn rfl)
    exact fxn
   ·exact oN
   ·exact oN
   intro β wx1 E
   replace FR:=hid (FR.out.fnw E rfl)
   replace AB0:=hid (AB0.out.fnw E rfl)
   replace AB1:=hid (AB1.out.fnw E rfl)
   replace AB2:=hid (AB2.out.fnw E rfl)
   have hE:=E.below rfl
   simp only [nP,zr,zq]
   replace FR0:=hid FR.out.le
   clear E
   go_upto_region 4 with fail
   have AB0_v:=hid (AB0.out.val (e:=0) V_cx.out V_va.out)
   have AB1_v:=hid (AB1.out.val (e:=0) V_cy.out V_vb.out)
   refine wfn [⟨true,8,6,9,0,0,27,21,cR,0,cR,[]⟩] [(16,.pointer (some ⟨B0,0,none⟩)),(17,.agg va.toArray),(18,.pointer (some ⟨B1,0,none⟩)),(19,.agg vb.toArray),(20,.tuple #[.agg cR.toArray,.int .i64 code]),(15,.tuple #[.agg cR.toArray,.int .i64 code]),(21,.agg cR.toArray),(22,.int .i64 code),(7,.int .i64 code)] _ (by simp only [zz4,zz5,zq];rfl) (by kernel_rfl) (by kernel_rfl) rfl ?_ ?_ ?_ ?_
   ·intro W' hW'
    have rd0:=AB0_v.out.below hW'
    have rd1:=AB1_v.out.below hW'
    refine fxo ?_ ?_;(go_big_quiet_step (fail);(try simp only [zq]);exact wqn rfl)
    refine fxo (wlg (by rfl) rfl rfl rd0 Tryz.underlying27 rfl (qR V_va.out) (wqn (by simp only [zq]))) ?_
    refine fxo ?_ ?_;(go_big_quiet_step (fail);(try simp only [zq]);exact wqn rfl)
    refine fxo (wlg (by rfl) rfl rfl rd1 Tryz.underlying27 rfl (qR V_vb.out) (wqn (by simp only [zq]))) ?_
    refine fxo ?_ ?_;(go_big_quiet_step ((go_at_call 46;exact qaA (HM.out _)));(try simp only [zq]);exact wqn rfl)
    iterate 3 (refine fxo ?_ ?_;(go_big_quiet_step (fail);(try simp only [zq]);exact wqn rfl))
    iterate 2 (refine fxs (by rfl) ?_)
    refine fxo ?_ ?_;(go_big_quiet_step (fail);(try simp only [zq]);exact wqn rfl)
    exact fxn
   ·exact oP _ _ (Tryz.alR (qR V_cR.out)) (oN)
   ·exact oP _ _ (stw rfl (qR V_cR.out) (qhE V_cR.out) (fun _=>rfl)) (oN)
   intro β wx2 E
   replace FR:=hid (FR.out.fnw E rfl)
   obtain ⟨b6,hb6⟩:∃ b,b=β 8:=⟨_,rfl⟩
   have eb6:=E.atNew mms rfl
   simp only at eb6
   rw [←hb6] at eb6
   have lB0_b6:B0<b6:=by have h1:=eb6.1;have h2:=AB0.out.lt;omega
   have lB1_b6:B1<b6:=by have h1:=eb6.1;have h2:=AB1.out.lt;omega
   have lB2_b6:B2<b6:=by have h1:=eb6.1;have h2:=AB2.out.lt;omega
   have hZb6:B0≤b6:=by have h1:=eb6.1;have h2:=FR0.out;omega
   replace AB0:=hid (AB0.out.fnw E rfl)
   replace AB1:=hid (AB1.out.fnw E rfl)
   replace AB2:=hid (AB2.out.fnw E rfl)
   replace AB0_v:=hid (AB0_v.out.fnw E rfl)
   replace AB1_v:=hid (AB1_v.out.fnw E rfl)
   have Ab6:=hid eb6.2
   simp only [nP,zr,zq]
   rw [←hb6]
   replace FR0:=hid FR.out.le
   clear E eb6 hb6
   go_upto_region 5 with fail
   refine qwf [⟨false,0,4,3,B2,0,44,25,cN,0,cN,[]⟩] [(23,.agg cR.toArray),(24,.int .i64 code),(25,.agg cN.toArray)] _ (by simp only [zz4,zz5,zq];rfl) (by kernel_rfl) (by kernel_rfl) ?_ ?_ ?_ ?_ ?_ ?_ ?_
   ·intro W' hW'
    have rd0:=Ab6.out.below hW'
    refine fxo (wlg (by rfl) rfl rfl rd0 Tryz.underlying27 rfl (qR V_cR.out) (wqn (by simp only [zq]))) ?_
    refine fxo ?_ ?_;(go_big_quiet_step (fail);(try simp only [zq]);exact wqn rfl)
    refine fxo (wqB rfl _ _ rfl _ rfl _ (qeX V_cR.out V_cN.out) (wqn (by simp only [zq]))) ?_
    refine fxs (by rfl) ?_
    exact fxn
   ·intro W' hK'
    have rd0:=At.keep hK' Ab6.out (oP _ _ (fun _=>(by show B2≠b6;omega)) (oN))
    refine fxo (wlg (by rfl) rfl rfl rd0 Tryz.underlying27 rfl (qR V_cR.out) (wqn (by simp only [zq]))) ?_
    first|(refine fxo ?_ ?_;(go_big_quiet_step (fail);(try simp only [zq]);exact wqn rfl))|(refine fxs (by kernel_rfl) ?_)
    refine fxo (wqB rfl _ _ rfl _ rfl _ (qeX V_cR.out V_cN.out) (wqn (by simp only [zq]))) ?_
    refine fxs (by kernel_rfl) ?_
    exact fxn
   ·exact oP _ _ (bnc) (oN)
   ·exact oP _ _ (fun _=>⟨AB2.out.lt,rfl,At.room AB2.out (qaY V_cz.out) (qaY V_cN.out)⟩) (oN)
   ·exact uno
   ·exact oP _ _ (stw rfl (qaY V_cN.out) (qsE V_cN.out) (fun _=>rfl)) (oN)
   intro β wx3 E
   replace FR:=hid (FR.out.flow E (oP _ _ (fun _=>(by show B0≤B2;omega)) (oN)))
   replace AB0:=hid (At.flow E AB0.out (oP _ _ (fun _=>(by show B2≠B0;omega)) (oN)))
   replace AB1:=hid (At.flow E AB1.out (oP _ _ (fun _=>(by show B2≠B1;omega)) (oN)))
   replace AB2:=hid (show At wx3 B2 0 cN from E.atOld mms rfl AB2.out.lt)
   replace AB0_v:=hid (At.flow E AB0_v.out (oP _ _ (fun _=>(by show B2≠B0;omega)) (oN)))
   replace AB1_v:=hid (At.flow E AB1_v.out (oP _ _ (fun _=>(by show B2≠B1;omega)) (oN)))
   replace Ab6:=hid (At.flow E Ab6.out (oP _ _ (fun _=>(by show B2≠b6;omega)) (oN)))
   simp only [nP,zr,zq]
   replace FR0:=hid FR.out.le
   clear E
   go_wp2_with fail
   have hld:=AB2.out.read (P:=Tryz.prog) Tryz.underlying44 rfl (qaY V_cN.out)
   refine bodyPost_ret (v:=.agg cN.toArray) (by simp [results,Tryz.results20,asAddr,hld]) rfl ?_
   exact ⟨rfl,fend HB0 FR⟩
theorem qzQ {ca cb:List Value} {a b:Qn} {t:Bool} (h1:ca=resN (some a)) (h2:cb=resN (some b)) (ha:VQ a) (hb:VQ b) (ht:t=decide (a.1*(b.2:Int)<b.1*(a.2:Int))) (w:World) :
  Calls Tryz.prog 23 #[.agg ca.toArray,.agg cb.toArray] w fun e w'=>e=.returned (.bool t)∧Below w.heap.size w w':=by
 have V_ca:=hid (show ca=nm (decide (a.1<0)) a.1.natAbs false a.2 0 from h1)
 have V_cb:=hid (show cb=nm (decide (b.1<0)) b.1.natAbs false b.2 0 from h2)
 obtain ⟨z,hz⟩:∃ z,z=cmpZ (a.1*(b.2:Int)) (b.1*(a.2:Int)):=⟨_,rfl⟩
 have HT:=hid (show t=decide (z<0) by
  rw [ht,hz];unfold cmpZ
  by_cases h:a.1*(b.2:Int)<b.1*(a.2:Int)
  ·rw [if_pos h,decide_eq_true h];rfl
  ·rw [if_neg h,decide_eq_false h];split<;>rfl)
 obtain ⟨va,V_va⟩:∃ c:List Value,Hid (c=rat (decide (a.1<0)) a.1.natAbs false a.2):=⟨_,hid rfl⟩
 obtain ⟨vb,V_vb⟩:∃ c:List Value,Hid (c=rat (decide (b.1<0)) b.1.natAbs false b.2):=⟨_,hid rfl⟩
 have HC:=hid (rcmpQ (ca:=va) (cb:=vb) V_va.out V_vb.out ha hb hz)
 clear h1 h2 ha hb hz ht
 obtain ⟨B0,hB0⟩:∃ B,B=w.heap.size:=⟨_,rfl⟩
 obtain ⟨B1,hB1⟩:∃ B,B=w.heap.size+1:=⟨_,rfl⟩
 obtain ⟨w0,hw0⟩:∃ w0,w0=((w.alloc (.cells ca.toArray 44)).alloc (.cells cb.toArray 44)):=⟨_,rfl⟩
 have AB0:=hid (show At w0 B0 0 ca by rw [hw0];exact ((show At (w.alloc (.cells ca.toArray 44)) B0 0 ca from At.fresh _ ca _ (by simp [hB0])).alloc _))
 have AB1:=hid (show At w0 B1 0 cb by rw [hw0];exact (show At ((w.alloc (.cells ca.toArray 44)).alloc (.cells cb.toArray 44)) B1 0 cb from At.fresh _ cb _ (by simp [hB1])))
 have FR:=hid (show Fr B0 w w0 by rw [hw0,hB0];exact ((Fr.start w).alloc _).alloc _)
 have FR0:=hid FR.out.le
 have l01:B0<B1:=by omega
 have hZB1:B0≤B1:=by omega
 have hZB0:B0≤B0:=Nat.le_refl _
 have HB0:=hid hB0
 go_enter Tryz.func23,Tryz.ntmps23
 go_upto_region 1 with fail
 rw [←hw0,←hB1,←hB0]
 clear hw0 hB0 hB1
 have AB0_v:=hid (AB0.out.val V_ca.out V_va.out)
 have AB1_v:=hid (AB1.out.val V_cb.out V_vb.out)
 refine wfn [] [(8,.pointer (some ⟨B0,0,none⟩)),(9,.agg va.toArray),(10,.pointer (some ⟨B1,0,none⟩)),(11,.agg vb.toArray),(12,.tuple #[.int .i64 z,.int .i64 0]),(7,.tuple #[.int .i64 z,.int .i64 0]),(13,.int .i64 z),(14,.int .i64 0),(5,.int .i64 z),(6,.int .i64 0)] _ (by simp only [zz4,zz5,zq];rfl) (by kernel_rfl) (by kernel_rfl) rfl ?_ ?_ ?_ ?_
 ·intro W' hW'
  have rd0:=AB0_v.out.below hW'
  have rd1:=AB1_v.out.below hW'
  refine fxo ?_ ?_;(go_big_quiet_step (fail);(try simp only [zq]);exact wqn rfl)
  refine fxo (wlg (by rfl) rfl rfl rd0 Tryz.underlying27 rfl (qR V_va.out) (wqn (by simp only [zq]))) ?_
  refine fxo ?_ ?_;(go_big_quiet_step (fail);(try simp only [zq]);exact wqn rfl)
  refine fxo (wlg (by rfl) rfl rfl rd1 Tryz.underlying27 rfl (qR V_vb.out) (wqn (by simp only [zq]))) ?_
  refine fxo ?_ ?_;(go_big_quiet_step ((go_at_call 49;exact qaA (HC.out _)));(try simp only [zq]);exact wqn rfl)
  iterate 5 (refine fxo ?_ ?_;(go_big_quiet_step (fail);(try simp only [zq]);exact wqn rfl))
  exact fxn
 ·exact oN
 ·exact oN
 intro β wx1 E
 replace FR:=hid (FR.out.fnw E rfl)
 replace AB0:=hid (AB0.out.fnw E rfl)
 replace AB1:=hid (AB1.out.fnw E rfl)
 replace AB0_v:=hid (AB0_v.out.fnw E rfl)
 replace AB1_v:=hid (AB1_v.out.fnw E rfl)
 have hE:=E.below rfl
 simp only [nP,zr,zq]
 replace FR0:=hid FR.out.le
 clear E
 go_wp2
 go_ret
 exact ⟨qaI HT.out.symm,by rw [HB0.out] at FR;exact FR.out.below⟩
theorem qkP (z:Int) (q:Nat) (h0:q≠0):rndI 3 (decide (z<0)) (z.natAbs*10^0) q=z / (q:Int):=by
 have hab:aboveB 3=fun _ _ _=>false:=by funext a b c;rfl
 unfold rndI
 rw [hab]
 simp only [Nat.pow_zero,Nat.mul_one,Bool.false_eq_true,if_false,ite_self]
 unfold flM
 by_cases hn:z<0
 ·have hz:z=-(z.natAbs:Int):=by omega
  by_cases hx:z.natAbs%q=0
  ·rw [if_neg (by simp [hx]),(qkH hz h0 hx).1]
   unfold cs1 zI
   by_cases hk:z.natAbs / q=0<;>simp [hn,hk]
  ·rw [if_pos ⟨by simp [hn],hx⟩,(qoF hz h0 hx).1]
   unfold cs1 zI
   simp [hn]
 ·have hz:z=(z.natAbs:Int):=by omega
  rw [if_neg (by simp [hn]),(qoE q hz).1]
  unfold cs1 zI
  simp [hn]
theorem qxT {ca:List Value} {a:Qn} {n most:Int} (h1:ca=resN (some a)) (ha:VQ a) (hn:n=a.1 / (a.2:Int)) (h0:0≤n) (hm:n≤most) (hm2:most<9223372036854775808) (w:World) :
  Calls Tryz.prog 42 #[.agg ca.toArray,.int .i64 3,.int .i64 most] w fun e w'=>e=.returned (.tuple #[.int .i64 n,.bool true])∧Below w.heap.size w w':=by
 have V_ca:=hid (show ca=nm (decide (a.1<0)) a.1.natAbs false a.2 0 from h1)
 obtain ⟨va,V_va⟩:∃ c:List Value,Hid (c=rat (decide (a.1<0)) a.1.natAbs false a.2):=⟨_,hid rfl⟩
 obtain ⟨cv,V_cv⟩:∃ c:List Value,Hid (c=.bool (decide (n<0))::lv 32 n.natAbs):=⟨_,hid rfl⟩
 have HR:=hid (qvA (cr:=va) (cv:=cv) (k:=0) (mode:=3) V_va.out V_cv.out (qwM a.1).symm ha.num ha.den ha.pos ha.low (by decide) (by decide) (by decide) (by rw [qkP _ _ ha.pos,←hn]) (by rw [qkP _ _ ha.pos,←hn]))
 have HI:=hid (fun W=>(show Calls Tryz.prog 75 #[.agg cv.toArray] W (fun e w'=>e=.returned (.tuple #[.int .i64 n,.bool true])∧Below W.heap.size W w') by
  have hv:n.natAbs<9223372036854775808:=by omega
  have hd:decide (n<0)=false:=decide_eq_false (by omega)
  have:=qkF false n.natAbs W hv (by simp [cs1])
  rw [V_cv.out,hd]
  rw [if_neg (by decide),Int.natAbs_of_nonneg h0] at this
  exact this))
 have p1:¬n<0:=by omega
 have p2:¬most<n:=by omega
 clear h1 ha hn h0 hm hm2
 obtain ⟨B0,hB0⟩:∃ B,B=w.heap.size:=⟨_,rfl⟩
 obtain ⟨w0,hw0⟩:∃ w0,w0=(w.alloc (.cells ca.toArray 44)):=⟨_,rfl⟩
 have AB0:=hid (show At w0 B0 0 ca by rw [hw0];exact (show At (w.alloc (.cells ca.toArray 44)) B0 0 ca from At.fresh _ ca _ (by simp [hB0])))
 have FR:=hid (show Fr B0 w w0 by rw [hw0,hB0];exact (Fr.start w).alloc _)
 have FR0:=hid FR.out.le
 have hZB0:B0≤B0:=Nat.le_refl _
 have HB0:=hid hB0
 go_enter Tryz.func42,Tryz.ntmps42
 go_upto_region 1 with fail
 rw [←hw0,←hB0]
 clear hw0 hB0
 have AB0_v:=hid (AB0.out.val V_ca.out V_va.out)
 refine wfn [⟨true,7,8,8,0,0,25,17,cv,0,cv,[]⟩] [(13,.pointer (some ⟨B0,0,none⟩)),(14,.agg va.toArray),(15,.int .i64 3),(16,.tuple #[.agg cv.toArray,.int .i64 0]),(12,.tuple #[.agg cv.toArray,.int .i64 0]),(17,.agg cv.toArray),(18,.int .i64 0),(9,.int .i64 0)] _ (by simp only [zz4,zz5,zq];rfl) (by kernel_rfl) (by kernel_rfl) rfl ?_ ?_ ?_ ?_
 ·intro W' hW'
  have rd0:=AB0_v.out.below hW'
  refine fxo ?_ ?_;(go_big_quiet_step (fail);(try simp only [zq]);exact wqn rfl)
  refine fxo (wlg (by rfl) rfl rfl rd0 Tryz.underlying27 rfl (qR V_va.out) (wqn (by simp only [zq]))) ?_
  refine fxo ?_ ?_;(go_big_quiet_step (fail);(try simp only [zq]);exact wqn rfl)
  refine fxo ?_ ?_;(go_big_quiet_step ((go_at_call 74;exact qaA (HR.out _)));(try simp only [zq]);exact wqn rfl)
  iterate 3 (refine fxo ?_ ?_;(go_big_quiet_step (fail);(try simp only [zq]);exact wqn rfl))
  iterate 2 (refine fxs (by rfl) ?_)
  refine fxo ?_ ?_;(go_big_quiet_step (fail);(try simp only [zq]);exact wqn rfl)
  exact fxn
 ·exact oP _ _ (Tryz.alI (qI V_cv.out)) (oN)
 ·exact oP _ _ (stw rfl (qI V_cv.out) (qbL V_cv.out) (fun _=>rfl)) (oN)
 intro β wx1 E
 replace FR:=hid (FR.out.fnw E rfl)
 obtain ⟨b8,hb8⟩:∃ b,b=β 7:=⟨_,rfl⟩
 have eb8:=E.atNew mms rfl
 simp only at eb8
 rw [←hb8] at eb8
 have lB0_b8:B0<b8:=by have h1:=eb8.1;have h2:=AB0.out.lt;omega
 have hZb8:B0≤b8:=by have h1:=eb8.1;have h2:=FR0.out;omega
 replace AB0:=hid (AB0.out.fnw E rfl)
 replace AB0_v:=hid (AB0_v.out.fnw E rfl)
 have Ab8:=hid eb8.2
 simp only [nP,zr,zq]
 rw [←hb8]
 replace FR0:=hid FR.out.le
 clear E eb8 hb8
 go_upto_region 4 with fail
 refine wfn [] [(22,.agg cv.toArray),(23,.tuple #[.int .i64 n,.bool true]),(21,.tuple #[.int .i64 n,.bool true]),(24,.int .i64 n),(25,.bool true),(10,.int .i64 n),(11,.bool true)] _ (by simp only [zz4,zz5,zq];rfl) (by kernel_rfl) (by kernel_rfl) rfl ?_ ?_ ?_ ?_
 ·intro W' hW'
  have rd0:=Ab8.out.below hW'
  refine fxo (wlg (by rfl) rfl rfl rd0 Tryz.underlying25 rfl (qI V_cv.out) (wqn (by simp only [zq]))) ?_
  refine fxo ?_ ?_;(go_big_quiet_step ((go_at_call 75;exact qaA (HI.out _)));(try simp only [zq]);exact wqn rfl)
  iterate 5 (refine fxo ?_ ?_;(go_big_quiet_step (fail);(try simp only [zq]);exact wqn rfl))
  exact fxn
 ·exact oN
 ·exact oN
 intro β wx2 E
 replace FR:=hid (FR.out.fnw E rfl)
 replace AB0:=hid (AB0.out.fnw E rfl)
 replace AB0_v:=hid (AB0_v.out.fnw E rfl)
 replace Ab8:=hid (Ab8.out.fnw E rfl)
 have hE:=E.below rfl
 simp only [nP,zr,zq]
 replace FR0:=hid FR.out.le
 clear E
 go_wp2
 go_ret2
 exact ⟨rfl,fend HB0 FR⟩
set_option maxHeartbeats 8000000
theorem quY {c d:List Value} (hc:c.length=66) (w:World):(Instr.field 44 (.agg (c++d).toArray) 0).run Tryz.prog w=.ok (.agg c.toArray) w:=by
 have hx:List.take 66 (c++d)=c:=by rw [←hc];exact List.take_left
 unfold Instr.field
 simp only [Sem.run_bind,run_underlying Tryz.underlying44,Result.andThen_ok]
 show (do let x ←asAgg (Value.agg (c++d).toArray);part 27 x 0:Sem Value).run Tryz.prog w=_
 obtain ⟨i,hi,hs⟩:∃ i,Tryz.prog.info? 27=some i∧i.size=66:=by
  have:=Tryz.infoR
  cases h:Tryz.prog.info? 27 with
  | none=>rw [h] at this;cases this
  | some i=>rw [h] at this;injection this with this;exact ⟨i,rfl,this⟩
 simp [asAgg,part,isAgg,Sem.run_bind,run_underlying Tryz.underlying27,run_sizeOf w hi,Program.cellsOf,hi,hs,hx]
set_option maxRecDepth 1000000 in
theorem qmW {ops:Array Oper} {op:Oper} {a:Act} {w:World} {rest:List Oper} {Q:Exit→Act→World→Prop} (hgd:op.guard=none) (x:Operand) (ho:op.op=.field 44 x 0) {r c:List Value} {n m:Bool} {p q:Nat} {e:Int} (hx:a.eval x=.agg r.toArray) (hr:r=nm n p m q e) (hc:c=rat n p m q)
  (h:wpList Tryz.prog ops Q rest (a.put op.dst (.agg c.toArray)) w):wpList Tryz.prog ops Q (op::rest) a w:=by
 subst hr hc
 refine wpList_plain hgd fun K' hK'=>?_
 unfold Oper.wp execOp
 unfold nm at hx
 obtain ⟨C,hC⟩:∃ C,C=rat n p m q:=⟨_,rfl⟩
 have:=quY (c:=C) (d:=[.int .i64 e]) (by rw [hC];exact qbP _ _ _ _) w
 rw [←hC] at hx h
 clear hC
 simp only [ho,hx,Sem.run_bind,this,Result.andThen_ok,Sem.run_pure]
 exact hK' _ _ h
theorem qrC {cR:List Value} {x y:Int} {d:Nat} (hy:y=(d:Int)) (hd:d≠0) (hR:cR=resR (mkQ x d)) (h1:-9223372036854775808≤x) (h2:x≤9223372036854775807) (h3:y≤9223372036854775807) (w:World) :
  Calls Tryz.prog 16 #[.int .i64 x,.int .i64 y] w fun e w'=>e=.returned (.agg cR.toArray)∧Below w.heap.size w w':=by
 obtain ⟨code,hc⟩:∃ c,c=resE (mkQ x d):=⟨_,rfl⟩
 obtain ⟨rn,rp,rm,rq,hcR⟩:∃ rn rp rm rq,cR=rat rn rp rm rq:=by
  rw [hR]
  cases mkQ x d with
  | none=>exact ⟨_,_,_,_,rfl⟩
  | some r=>exact ⟨_,_,_,_,rfl⟩
 have V_cR:=hid hcR
 obtain ⟨cN,V_cN⟩:∃ c:List Value,Hid (c=nm rn rp rm rq code):=⟨_,hid rfl⟩
 obtain ⟨cz,V_cz⟩:∃ c:List Value,Hid (c=rat false 0 false 0):=⟨_,hid rfl⟩
 have HO:=hid (qzP (cN:=cN) hy hd (by rw [V_cN.out];unfold resN nm;rw [←hR,←hc,hcR]) h1 h2 h3)
 have HMX:=hid (show max y 1=y by omega)
 clear hy hd hR h1 h2 h3 hc hcR
 obtain ⟨B0,hB0⟩:∃ B,B=w.heap.size:=⟨_,rfl⟩
 obtain ⟨w0,hw0⟩:∃ w0,w0=(w.alloc (.cells Tryz.zeroCells27 27)):=⟨_,rfl⟩
 have AB0:=hid (show At w0 B0 0 cz by rw [hw0];exact (show At (w.alloc (.cells Tryz.zeroCells27 27)) B0 0 cz from (by rw [Tryz.zeroR,V_cz.out];exact At.fresh _ (rat false 0 false 0) _ (by simp [hB0]))))
 have FR:=hid (show Fr B0 w w0 by rw [hw0,hB0];exact (Fr.start w).alloc _)
 have FR0:=hid FR.out.le
 have hZB0:B0≤B0:=Nat.le_refl _
 have HB0:=hid hB0
 go_enter Tryz.func16,Tryz.ntmps16
 go_upto_region 1 with fail
 rw [←hw0,←hB0]
 clear hw0 hB0
 have HTH:=hid (fun W (hb:Below w0.heap.size w0 W)=>(show W.there B0 0 cR.toArray.size by have:=(AB0.out.below hb).there;rw [V_cz.out,qbP] at this;rw [List.size_toArray,V_cR.out,qbP];exact this))
 have HSA:=hid (show (Tryz.prog.info? 27).map (·.size)=some cR.toArray.size by rw [List.size_toArray];exact qR V_cR.out)
 have HONE:=hid (qhE V_cR.out)
 go_wp2_with (first|(refine qgI rfl _ _ _ rfl .i64 y 1 rfl rfl ?_;rw [HMX.out])|(go_at_call 22;refine (HO.out _).mono ?_;rintro e w1 ⟨rfl,hb1⟩;have HB1:=hid hb1;clear hb1)|(refine qmW rfl _ rfl rfl V_cN.out V_cR.out ?_)|(refine wpList_store_mid rfl _ _ _ rfl B0 0 _ rfl rfl (HTH.out _ HB1.out) HSA.out HONE.out ?_))
 try simp only [zq]
 try simp only [List.toList_toArray]
 have AF:=hid ((AB0.out.below HB1.out).stored (ds:=cR) (by rw [V_cR.out,V_cz.out,qbP,qbP]))
 have FF:=hid (qaB hZB0 cR 0 _ (FR.out.step HB1.out).below)
 have hld:=AF.out.read (P:=Tryz.prog) Tryz.underlying27 rfl (qR V_cR.out)
 refine bodyPost_ret (v:=.agg cR.toArray) (by simp [results,Tryz.results16,asAddr,hld]) rfl ?_
 exact ⟨rfl,by have h:=FF.out;rw [HB0.out] at h ⊢;exact h⟩
theorem Rd.of_reads {w:World} {v:Value} {n size:Nat} {xs:List Value} (h:Reads w size v n xs):Rd w size v n xs:=by
 obtain ⟨h1,h2,h3⟩:=h
 rcases h3 with ⟨rfl,rfl⟩|⟨g,off,cap,rfl,hc⟩
 ·exact ⟨h1,h2,none,0,rfl,fun h=>absurd h (by omega)⟩
 ·exact ⟨h1,h2,_,cap,rfl,fun _=>⟨g,off,rfl,hc⟩⟩
theorem Rd.of_row {w:World} {g n cap:Nat} {l:List Int} (h:Row w g 0 l) (hl:l.length=n) (hn:n≤1000000):Rd w 1 (.slice (some ⟨g,0,none⟩) n cap) n (l.map (Value.int .i64)):=Rd.of_reads (qkS h hl hn)
theorem quX (va vb:Value) (a b:List Int) (w:World) (ha:Rd w 1 va a.length (a.map (Value.int .i64))) (hb:Rd w 1 vb b.length (b.map (Value.int .i64))) :
  Calls Tryz.prog 12 #[va,vb] w fun e w'=>e=.returned (.bool (decide (a=b)))∧Below w.heap.size w w':=by
 obtain ⟨_,hA2,A,ca,rfl,hA3⟩:=ha
 obtain ⟨_,hB2,B,cb,rfl,hB3⟩:=hb
 by_cases hl:a.length=b.length
 ·obtain ⟨n,hn⟩:∃ n,n=b.length:=⟨_,rfl⟩
  rw [hl] at hA2 hA3 ⊢
  rw [←hn] at hA2 hA3 hB2 hB3 hl ⊢
  have HN:=hid (And.intro hl hn)
  have HA3:=hid hA3
  have HB3:=hid hB3
  clear hl hn hA3 hB3
  go_enter Tryz.func12,Tryz.ntmps12
  go_wp2
  go_loopg [5] n (fun m iv wr=>∃ k:Nat,iv=.int .i64 k∧k≤n∧n≤m+k∧(∀ j,j<k→a[j]?=b[j]?)∧Below w.heap.size w wr)
  case atStart=>exact ⟨0,rfl,by omega,by omega,fun j hj=>absurd hj (by omega),Below.refl _ _⟩
  case round =>
   obtain ⟨k,rfl,hk,hm,hall,hbl⟩:=hrel
   have HALL:=hid hall
   have HBL:=hid hbl
   clear hall
   by_cases hkn:k<n
   ·obtain ⟨g,off,rfl,hc⟩:=HA3.out (by omega)
    obtain ⟨g2,off2,rfl,hc2⟩:=HB3.out (by omega)
    obtain ⟨x,hx⟩:∃ x,a[k]?=some x:=⟨a[k]'(by rw [HN.out.1];exact hkn),by simp [HN.out.1,hkn]⟩
    obtain ⟨y,hy⟩:∃ y,b[k]?=some y:=⟨b[k]'(by rw [←HN.out.2];exact hkn),by simp [←HN.out.2,hkn]⟩
    have c0:=qcU (hc k (.int .i64 x) (by rw [List.getElem?_map,hx];rfl)) hbl
    have c1:=qcU (hc2 k (.int .i64 y) (by rw [List.getElem?_map,hy];rfl)) hbl
    have HXY:=hid (And.intro hx hy)
    clear hc hc2 hx hy hbl
    by_cases he:x=y
    ·subst he
     go_upto_region 6 with fail
     go_quiet (fail)
     go_wp2
     go_roundg (gk - 1)
     case measure=>omega
     case rel=>exact ⟨k+1,by go_num,by omega,by omega,fun j hj=>by
      by_cases hjk:j=k
      ·rw [hjk,HXY.out.1,HXY.out.2]
      ·exact HALL.out j (by omega),below_drewN HBL.out _⟩
    ·have hne:(x==y)=false:=beq_eq_false_iff_ne.2 he
     have HNO:=hid (show decide (a=b)=false from decide_eq_false (fun h=>he (by have:=HXY.out.1;rw [h,HXY.out.2] at this;injection this with this;exact this.symm)))
     clear he
     go_upto_region 6 with fail
     go_quiet (fail)
     go_wp2
     go_ret
     exact ⟨qaI HNO.out.symm,below_drewN HBL.out _⟩
   ·have HYES:=hid (show decide (a=b)=true from decide_eq_true (List.ext_getElem? fun j=>by
     by_cases hj:j<k
     ·exact HALL.out j hj
     ·rw [List.getElem?_eq_none (by rw [HN.out.1];omega),List.getElem?_eq_none (by rw [←HN.out.2];omega)]))
    clear hbl
    go_wp2
    go_ret
    exact ⟨qaI HYES.out.symm,HBL.out⟩
 ·have HNO:=hid (show decide (a=b)=false from decide_eq_false (fun h=>hl (by rw [h])))
  have hne:((a.length:Int)==(b.length:Int))=false:=beq_eq_false_iff_ne.2 (by omega)
  obtain ⟨x,hx⟩:∃ x,x=a.length:=⟨_,rfl⟩
  obtain ⟨y,hy⟩:∃ y,y=b.length:=⟨_,rfl⟩
  rw [←hx,←hy] at hne ⊢
  clear hl hx hy hA3 hB3
  go_enter Tryz.func12,Tryz.ntmps12
  go_wp2
  go_ret
  exact ⟨qaI HNO.out.symm,Below.refl _ _⟩
end Go.Proofs.YtooeabibhjbkoaaGreat
set_option maxHeartbeats 8000000
namespace Go.Proofs.YtooeabibhjbkoaaGreat
open Go.RowKit Big Reg Al Ap Ga
open Lib (hid)
namespace Ga
def awl:List Rq:=[⟨⟨#[97]⟩,100,10000⟩,⟨⟨#[98]⟩,100,10000⟩]
theorem aw1:allowE 10000 false false 1 2 awl=none:=by decide +kernel
theorem aw2:allowE 20000 false false 1 1 awl=none:=by decide +kernel
theorem qvP {ps:List Nat} (h:ps.length=2):ps=[ps.getD 0 0,ps.getD 1 0]:=by
 match ps,h with
 | [a,b],_=>rfl
theorem out1 {outs:List Int} (h:Outs (roomZ 10000 1 2) awl outs):outs=[25,25]:=by
 obtain ⟨ps,⟨hl,hc⟩,rfl⟩:=h
 have hw:valsN awl=[10000,10000]:=by decide
 have hT:(roomZ 10000 1 2).toNat=5000:=by decide
 rw [hw,hT] at hc
 rw [hw] at hl
 rcases hc with ⟨h1,_⟩|⟨_,o,_,_,_,hg⟩
 ·exact absurd h1 (by decide)
 ·have hm:miss 5000 [10000,10000]=0:=by decide
  have g0:=hg 0 (by decide)
  have g1:=hg 1 (by decide)
  rw [hm] at g0 g1
  have q0:quo 5000 [10000,10000] 0=2500:=by decide
  have q1:quo 5000 [10000,10000] 1=2500:=by decide
  rw [q0,List.take_zero,if_neg (by simp)] at g0
  rw [q1,List.take_zero,if_neg (by simp)] at g1
  rw [qvP hl,g0,g1]
  decide
theorem out2 {outs:List Int} (h:Outs (roomZ 20000 1 1) awl outs):outs=[100,100]:=by
 obtain ⟨ps,⟨hl,hc⟩,rfl⟩:=h
 have hw:valsN awl=[10000,10000]:=by decide
 have hT:(roomZ 20000 1 1).toNat=20000:=by decide
 rw [hw,hT] at hc
 rcases hc with ⟨_,rfl⟩|⟨h1,_⟩
 ·decide
 ·exact absurd h1 (by decide)
end Ga
theorem qjE (va vb:Value) (l:List Int) (w:World) (ha:Rd w 1 va l.length (l.map (Value.int .i64))) (hb:Rd w 1 vb l.length (l.map (Value.int .i64))) :
  Calls Tryz.prog 12 #[va,vb] w fun e w'=>e=.returned (.bool true)∧Below w.heap.size w w':=by
 have:=quX va vb l l w ha hb
 rwa [decide_eq_true (rfl:l=l)] at this
def ListP (n:Nat) (outs:List Int) (w:World) (e:Ending) (w':World):Prop:=∃ g,e=.returned (.tuple #[.slice (some ⟨g,0,none⟩) n n,.int .i64 0])∧w.heap.size≤g∧g<w'.heap.size∧Row w' g 0 outs∧Below w.heap.size w w'
theorem qiU {net:Int} {cr:List Value} {gn gm:Bool} {p q:Nat} (hcr:cr=rat gn p gm q) (hp:p<BB^32) (hq:q<BB^32) (v:Value) (l:List Rq) (w:World) (h:RqsAt w v l) (hl:l.length≤19) (hE:allowE net gn gm p q l=none) :
  Calls Tryz.prog 10 #[.int .i64 net,.agg cr.toArray,v] w fun e w'=>∃ outs,Outs (roomZ net p q) l outs∧ListP l.length outs w e w':=by
 refine (qmU net hcr hp hq v l w h (.inl hl)).mono ?_
 rintro e w' ⟨hb,h1|h1⟩
 ·obtain ⟨c,hc,_⟩:=h1;rw [hE] at hc;cases hc
 ·obtain ⟨_,g,outs,he,h2,h3,h4,h5⟩:=h1
  exact ⟨outs,h5,g,he,h2,h3,h4,hb⟩
theorem qmS (w:World):Calls Tryz.prog 9 #[] w fun e w'=>e=.returned (.bool true)∧Below w.heap.size w w':=by
 obtain ⟨c1,V_c1⟩:∃ c:List Value,Hid (c=rat false 1 false 2):=⟨_,hid rfl⟩
 obtain ⟨c2,V_c2⟩:∃ c:List Value,Hid (c=rat false 1 false 1):=⟨_,hid rfl⟩
 have hB2:(2:Nat)<BB^32:=Nat.lt_of_lt_of_le (show 2<BB^1 by unfold BB;decide) (Nat.pow_le_pow_right qaN (by omega))
 have HR1:=hid (qrC (cR:=c1) (x:=1) (y:=2) (d:=2) rfl (by decide) (by rw [V_c1.out,show mkQ 1 2=some (1,2) by decide +kernel];rfl) (by decide) (by decide) (by decide))
 have HR2:=hid (qrC (cR:=c2) (x:=1) (y:=1) (d:=1) rfl (by decide) (by rw [V_c2.out,show mkQ 1 1=some (1,1) by decide +kernel];rfl) (by decide) (by decide) (by decide))
 have HA1:=hid (fun W v (h:RqsAt W v awl)=>(qiU (net:=10000) V_c1.out (by omega) hB2 v awl W h (by decide) aw1).mono (fun e w' ⟨o,ho,hl⟩=>(by rw [out1 ho] at hl;exact hl:ListP 2 [25,25] W e w')))
 have HA2:=hid (fun W v (h:RqsAt W v awl)=>(qiU (net:=20000) V_c2.out (by omega) (by omega) v awl W h (by decide) aw2).mono (fun e w' ⟨o,ho,hl⟩=>(by rw [out2 ho] at hl;exact hl:ListP 2 [100,100] W e w')))
 have HQ:=hid (show RqsAt (w.alloc (.cells (Ga.cellsQ awl).toArray 48)) (.slice (some ⟨w.heap.size,0,none⟩) 2 2) awl from ⟨rfl,by decide,_,_,rfl,fun _=>⟨_,_,rfl,fun j u hu=>by
  have:=qdQ w (Ga.cellsQ awl) 48 j u hu
  have hadd:(⟨w.heap.size,0,none⟩:Addr).add j=⟨w.heap.size,0+j,none⟩:=by unfold Addr.add;split<;>simp_all
  rwa [hadd] at this⟩⟩)
 obtain ⟨w1,hw1⟩:∃ w1,w1=w.alloc (.cells (Ga.cellsQ awl).toArray 48):=⟨_,rfl⟩
 have hb1:Below w.heap.size w w1:=by rw [hw1];exact (Below.refl _ _).alloc (Nat.le_refl _) _
 have HB1:=hid hb1
 rw [←hw1] at HQ
 have hw1':w.alloc (.cells #[.string ⟨#[97]⟩,.int .i64 100,.int .i64 10000,.string ⟨#[98]⟩,.int .i64 100,.int .i64 10000] 48)=w1:=hw1.symm
 have HW1:=hid hw1'
 clear hw1 hw1' hb1 hB2
 go_enter Tryz.func9,Tryz.ntmps9
 go_upto_region 2 with fail
 rw [HW1.out]
 go_upto_region 3 with (first|(go_at_call 16;refine (HR1.out _).mono ?_;rintro e w2 ⟨rfl,hb2⟩;have HB2:=hid hb2;clear hb2)|(go_at_call 10;refine (HA1.out _ _ (HQ.out.below HB2.out)).mono ?_;rintro e w3 ⟨g1,rfl,hg1,hg2,hr1,hb3⟩;have HB3:=hid hb3;have HX1:=hid (And.intro hg1 (And.intro hg2 hr1));clear hb3 hg1 hg2 hr1))
 have HB13:=hid (show Below w1.heap.size w1 w3 from HB2.out.trans (HB3.out.mono HB2.out.size))
 go_upto_region 4 with (first|(go_at_call 16;refine (HR2.out _).mono ?_;rintro e w4 ⟨rfl,hb4⟩;have HB4:=hid hb4;clear hb4)|(go_at_call 10;refine (HA2.out _ _ ((HQ.out.below HB13.out).below HB4.out)).mono ?_;rintro e w5 ⟨g2,rfl,hg1,hg2,hr1,hb5⟩;have HB5:=hid hb5;have HX2:=hid (And.intro hg1 (And.intro hg2 hr1));clear hb5 hg1 hg2 hr1))
 have HB35:=hid (show Below w3.heap.size w3 w5 from HB4.out.trans (HB5.out.mono HB4.out.size))
 have HRA:=hid (show Rd w5 1 (.slice (some ⟨g1,0,none⟩) 2 2) 2 ([25,25].map (Value.int .i64)) from (Rd.of_row HX1.out.2.2 rfl (by decide)).below HB35.out)
 have HRB:=hid (show Rd w5 1 (.slice (some ⟨g2,0,none⟩) 2 2) 2 ([100,100].map (Value.int .i64)) from Rd.of_row HX2.out.2.2 rfl (by decide))
 have HNEW:=hid (fun (W:World) (l:List Int) (h2:l.length=2)=>(show Rd (W.alloc (.cells (l.map (Value.int .i64)).toArray 3)) 1 (.slice (some ⟨W.heap.size,0,none⟩) 2 2) 2 (l.map (Value.int .i64)) from ⟨by simp [h2],by decide,_,_,rfl,fun _=>⟨_,_,rfl,fun j u hu=>by
  have:=qdQ W (l.map (Value.int .i64)) 3 j u hu
  have hadd:(⟨W.heap.size,0,none⟩:Addr).add j=⟨W.heap.size,0+j,none⟩:=by unfold Addr.add;split<;>simp_all
  rwa [hadd] at this⟩⟩))
 have HB15:=hid (show Below w.heap.size w w5 from (HB1.out.trans (HB13.out.mono HB1.out.size)).trans (HB35.out.mono (HB1.out.trans (HB13.out.mono HB1.out.size)).size))
 go_wp2_with fail
 refine (qjE _ _ [25,25] _ (HRA.out.below ((Below.refl _ _).alloc (Nat.le_refl _) _)) (HNEW.out _ [25,25] rfl)).mono ?_
 rintro e w6 ⟨rfl,hb6⟩
 have HB6:=hid (show Below w5.heap.size w5 w6 from ((Below.refl _ _).alloc (Nat.le_refl _) _).trans (hb6.mono (by simp)))
 clear hb6
 go_wp2_with fail
 refine (qjE _ _ [100,100] _ (HRB.out.below (HB6.out.alloc HB6.out.size _)) (HNEW.out _ [100,100] rfl)).mono ?_
 rintro e w7 ⟨rfl,hb7⟩
 have HB7:=hid (show Below w5.heap.size w5 w7 from (HB6.out.alloc HB6.out.size _).trans (hb7.mono (by have:=HB6.out.size;simp;omega)))
 clear hb7
 go_wp2
 go_ret
 exact ⟨rfl,HB15.out.trans (HB7.out.mono HB15.out.size)⟩
end Go.Proofs.YtooeabibhjbkoaaGreat
