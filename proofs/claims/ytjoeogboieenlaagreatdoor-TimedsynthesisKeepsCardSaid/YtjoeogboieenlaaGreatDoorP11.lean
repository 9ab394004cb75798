/-
  Part 11 of the proof: see the last text.
-/
import Derived.Test.YtjoeogboieenlaaGreatDoorP10
import Derived.KernelRfl
set_option linter.unusedVariables false
set_option linter.unusedSimpArgs false
set_option linter.unusedSectionVars false
section
namespace Go.Abs
open Go
theorem Qbax {l:List Int} (hl:l.length≤lim):Qfx l=some ⟨l,0,[],[]⟩:=by
 unfold Qfx Qbc;rw [Q3 (by simpa using hl)];rfl
theorem Q9d {l:List Int} {v:Int} (hl:l.length<big):Qfy l v=some (if v∈l then (l.idxOf v:Int) else -1):=by
 have hb:l.length<1000000000000:=hl;unfold Qfy Qc4;refine (Qkt (len:=l.length) (fun k=>some (if v∈l.drop k then ((k+(l.drop k).idxOf v:Nat):Int) else -1)) (by unfold Qbb;omega) ?_ ?_).trans (by simp)
 ·intro k i hi ih;rw [if_pos (by omega),Qx hi,Qbq (by omega),ih,List.drop_eq_getElem_cons hi];simp only [Option.bind_some,List.mem_cons,List.idxOf_cons];by_cases h:v=l[i]
  ·simp [← h]
  ·have h' : ¬ l[i]=v:=fun e=>h e.symm;have hbq:(l[i]==v)=false:=by simp [h']
   by_cases h2:v∈l.drop (i+1)<;>simp [h,h2,hbq];omega
 ·intro k;simp
theorem Q0r {a:Qa} (h:Right a) (s:Int):Q02 a s=(a.zO.filter fun e=>decide (0≤Qdl a s e)).map (Qdl a s):=by
 rw [← Qqb h,List.map_map];unfold Q02;exact List.map_congr_left fun x hx=>(Qyz h hx).symm
theorem Q4m {a:Qa} (s:Int):∀ (al o:List Int),al.foldl (fun o e=>if 0≤Qdl a s e then ins o (Qdl a s e) else o) o=((al.filter fun e=>decide (0≤Qdl a s e)).map (Qdl a s)).foldl ins o
 | [],o=>rfl
 | e::al,o=>by
  by_cases hx:0≤Qdl a s e<;>simp [List.filter_cons,hx,Q4m s al]
theorem Qbgw {a:Qa} {fuel i:Nat} {o:List Int} (hi:i<o.length):bfs a (fuel+1) i o=bfs a fuel (i+1) ((Q02 a o[i]).foldl ins o):=by
 conv=>lhs;unfold bfs
 rw [List.getElem?_eq_getElem hi]
theorem Qbjj {a:Qa} {fuel:Nat} {o:List Int}:bfs a fuel o.length o=o:=by
 cases fuel with
 | zero=>rfl
 | succ n=>unfold bfs;simp
section
variable {a:Qa} (h:Right a)
include h
theorem Qbb4 (fuel:Nat) (hfu:1099511627776≤fuel) {s:Int} {o:List Int} {i:Nat} (hf:Fnd a o) (hi:o[i]? = some s) :
  Qbi (fun k12 ((out10,k11):(List Int)×Int)=>(if (k11<(a.zO.length:Int)) then ((((getO out10 (i:Int)).bind fun x14=>((getO a.zO k11).bind fun x16=>((Qcx a x14 x16).bind fun x19=>(((if (x19≥0) then ((Qdy out10 x19).bind fun x22=>some (!x22)) else some false)).bind fun (x23:Bool)=>(if x23 then ((appO out10 [x19]).bind fun x25=>some x25) else some out10)))))).bind fun (out27:List Int)=>k12 (out27,(IntKind.wrap .i64 (k11+1)))) else some out10)) fuel (o,0)=some ((Q02 a s).foldl ins o):=by
 have hs:=h.small.1;have hst:=h.st;have hb:a.zO.length<1000000000000:=hs.1;rw [Q0r h,← Q4m];refine (Qix (len:=a.zO.length) (fun n (acc:List Int)=>(acc,(n:Int))) (fun n acc=>Fnd a acc∧acc[i]? = some s) (fun n acc=>some ((a.zO.drop n).foldl (fun o e=>if 0≤Qdl a s e then ins o (Qdl a s e) else o) acc)) ?_ ?_ fuel 0 o (Nat.zero_le _) (by omega) ⟨hf,hi⟩).trans (by simp)
 ·intro k n acc hn ⟨k1,k2⟩ ih;have hlen:=k1.len;have hg:getO acc (i:Int)=some s:=by rw [Q2y];exact ⟨by omega,by simpa using k2⟩
  dsimp only;rw [if_pos (by omega),hg,Qx hn];simp only [Option.bind_some];rw [Q4l hs,Qbq (by omega)];simp only [Option.bind_some];rw [Qbh6 (by unfold big;omega),List.drop_eq_getElem_cons hn,List.foldl_cons];rcases Qqa h s a.zO[n] with hr|hr
  ·rw [hr];simp only [show ¬ ((-1:Int)≥0) from by omega,show ¬ ((0:Int) ≤ -1) from by omega,if_false,Option.bind_some,Bool.false_eq_true];exact ih _ ⟨k1,k2⟩
  ·have hge:Qdl a s a.zO[n]≥0:=hr.1;by_cases hm:Qdl a s a.zO[n]∈acc
   ·simp only [hge,hm,decide_true,Bool.not_true,if_true,Option.bind_some,Bool.false_eq_true,if_false,hr.1,ins];exact ih _ ⟨k1,k2⟩
   ·simp only [hge,hm,decide_false,Bool.not_false,if_true,Option.bind_some,hr.1,ins,if_false];rw [Q3 (by simp only [List.length_cons,List.length_nil];unfold lim;omega)];simp only [Option.bind_some];have hi':=k1.ins (t:=Qdl a s a.zO[n]) ⟨hr.1,hr.2.1⟩;unfold ins at hi';rw [if_neg hm] at hi';exact ih _ ⟨hi',Qv8 (List.prefix_append acc _) k2⟩
 ·intro k acc _;dsimp only;rw [if_neg (by omega)];simp
theorem Q9e:Qhe a=some (Qq2 a):=by
 have hs:=h.small.1;have hst:=h.st;unfold Qhe Qc3;obtain ⟨fuel,hfu,hge⟩ : ∃ f,Qbb=f∧1099511627776≤f:=⟨_,rfl,Nat.le_refl _⟩;rw [hfu];have hloop:∀ o:List Int,Fnd a o→Qbi (fun (k8:List Int×Int→Option (List Int)) ((out6,i7):(List Int)×Int)=>(if (i7<(out6.length:Int)) then ((Qbi (fun k12 ((out10,k11):(List Int)×Int)=>(if (k11<(a.zO.length:Int)) then ((((getO out10 i7).bind fun x14=>((getO a.zO k11).bind fun x16=>((Qcx a x14 x16).bind fun x19=>(((if (x19≥0) then ((Qdy out10 x19).bind fun x22=>some (!x22)) else some false)).bind fun (x23:Bool)=>(if x23 then ((appO out10 [x19]).bind fun x25=>some x25) else some out10)))))).bind fun (out27:List Int)=>k12 (out27,(IntKind.wrap .i64 (k11+1)))) else some out10)) fuel (out6,0)).bind fun (out28:List Int)=>k8 (out28,(IntKind.wrap .i64 (i7+1)))) else some out6)) fuel (o,0)=some (bfs a (a.zS.toNat+1) 0 o):=by
  intro o ho;have:=Qfj (F:=fun (k8:List Int×Int→Option (List Int)) ((out6,i7):(List Int)×Int)=>(if (i7<(out6.length:Int)) then ((Qbi (fun k12 ((out10,k11):(List Int)×Int)=>(if (k11<(a.zO.length:Int)) then ((((getO out10 i7).bind fun x14=>((getO a.zO k11).bind fun x16=>((Qcx a x14 x16).bind fun x19=>(((if (x19≥0) then ((Qdy out10 x19).bind fun x22=>some (!x22)) else some false)).bind fun (x23:Bool)=>(if x23 then ((appO out10 [x19]).bind fun x25=>some x25) else some out10)))))).bind fun (out27:List Int)=>k12 (out27,(IntKind.wrap .i64 (k11+1)))) else some out10)) fuel (out6,0)).bind fun (out28:List Int)=>k8 (out28,(IntKind.wrap .i64 (i7+1)))) else some out6))
   (fun x=>∃ i:Nat,x.2=(i:Int)∧i≤x.1.length∧Fnd a x.1) (fun x=>a.zS.toNat+1-x.2.toNat) (fun x r=>r=some (bfs a (a.zS.toNat+1-x.2.toNat) x.2.toNat x.1)) (by
    rintro k ⟨o,i⟩ ⟨i,rfl,hi,hf⟩ ih;replace hi:i≤o.length:=hi;replace hf:Fnd a o:=hf;have hl:=hf.len;dsimp only;by_cases hlt:i<o.length
    ·rw [if_pos (by omega),Qbb4 h fuel hge hf (List.getElem?_eq_getElem hlt),Option.bind_some,Qbq (by omega)];obtain ⟨q1,q2,_,_⟩:=Q22 hf (Q23 h o[i]);have hle:=q2.length_le;rw [ih _ ⟨i+1,rfl,by simp only;omega,q1⟩ (by simp only;omega)];simp only [Int.toNat_natCast];rw [show a.zS.toNat+1-i=(a.zS.toNat+1-(i+1))+1 from by omega,Qbgw hlt]
    ·rw [if_neg (by omega)];obtain rfl:i=o.length:=by omega
     simp only [Int.toNat_natCast,Qbjj]) fuel (o,0) ⟨0,rfl,Nat.zero_le _,ho⟩ (by simp only;omega)
  simpa using this
 by_cases h0:0<a.zS
 ·rw [if_pos (by omega),Q3 (by simp only [List.length_cons,List.length_nil];unfold lim;omega)];simp only [Option.bind_some];rw [show ([]++[0]:List Int)=[0] from rfl,hloop [0] ⟨by simp,fun s hs=>by simp at hs;subst hs;omega⟩];simp only [Option.bind_some,Qq2,if_pos h0]
 ·rw [if_neg (by omega)];simp only [Option.bind_some];rw [hloop [] ⟨by simp,fun s hs=>by simp at hs⟩];simp only [Option.bind_some,Qq2,if_neg h0]
theorem Q4n (fuel:Nat) (hfu:1099511627776≤fuel) {F:List Int} (hF:Fnd a F) (hcl:∀ s∈F,∀ t∈Q02 a s,t∈F) {s:Int} {i:Nat} (hi:F[i]? = some s) (ms:List Int) (es:List Qc) (hes:es.length≤200000) :
  Qbi (fun (k24:Int×List Qc→Option (List Int×List Qc)) ((k22,out23):Int×(List Qc))=>(if (k22<(a.zO.length:Int)) then ((((getO F (i:Int)).bind fun x26=>((getO a.zO k22).bind fun x28=>((Qcx a x26 x28).bind fun x31=>(if (x31≥0) then ((getO a.zO k22).bind fun x33=>((Qfy F x31).bind fun x36=>((appO out23 [(Qc.mk (i:Int) x33 x36)]).bind fun x37=>some x37))) else some out23))))).bind fun (out39:List Qc)=>k24 ((IntKind.wrap .i64 (k22+1)),out39)) else some (ms,out23))) fuel (0,es)=some (ms,es++rowP a F i s):=by
 have hs:=h.small.1;have hst:=h.st;have hal:=h.small.2.1;have hb:a.zO.length<1000000000000:=hs.1;have hFl:=hF.len;have hrow:rowP a F i s=(a.zO.filter fun e=>decide (0≤Qdl a s e)).map fun e=>⟨(i:Int),e,(F.idxOf (Qdl a s e):Int)⟩:=by
  rw [← Qqb h,List.map_map];unfold rowP;exact List.map_congr_left fun x hx=>by simp only [Function.comp];rw [Qyz h hx]
 rw [hrow];refine (Qix (len:=a.zO.length) (fun n (acc:List Qc)=>((n:Int),acc)) (fun n acc=>acc.length≤200000+n) (fun n acc=>some (ms,acc++((a.zO.drop n).filter fun e=>decide (0≤Qdl a s e)).map fun e=>⟨(i:Int),e,(F.idxOf (Qdl a s e):Int)⟩)) ?_ ?_ fuel 0 es (Nat.zero_le _) (by omega) (by omega)).trans (by simp)
 ·intro k n acc hn k1 ih;have hg:getO F (i:Int)=some s:=by rw [Q2y];exact ⟨by omega,by simpa using hi⟩
  dsimp only;rw [if_pos (by omega),hg,Qx hn];simp only [Option.bind_some];rw [Q4l hs,Qbq (by omega)];simp only [Option.bind_some];rw [List.drop_eq_getElem_cons hn,List.filter_cons];by_cases hr:0≤Qdl a s a.zO[n]
  ·have hm:Qdl a s a.zO[n]∈F:=hcl s (List.mem_of_getElem? hi) _ (by rw [Q0r h];exact List.mem_map.2 ⟨_,List.mem_filter.2 ⟨List.getElem_mem hn,by simpa using hr⟩,rfl⟩);rw [if_pos hr,Q9d (by unfold big;omega),if_pos hm];simp only [Option.bind_some];rw [Q3 (by simp only [List.length_cons,List.length_nil];unfold lim;omega)];simp only [Option.bind_some];rw [ih _ (by simp only [List.length_append,List.length_cons,List.length_nil];omega)];simp only [hr,decide_true,if_true,List.map_cons,List.append_assoc,List.cons_append,List.nil_append]
  ·rw [if_neg (by omega)];simp only [Option.bind_some];rw [ih _ (by omega)];simp only [hr,decide_false,Bool.false_eq_true,if_false]
 ·intro k acc _;dsimp only;rw [if_neg (by omega)];simp
theorem Qbgx {F:List Int} {i:Nat} {s:Int}:(rowP a F i s).length≤32:=by
 have:=h.small.2.1;have h1:(rowP a F i s).length=((outP a s).map (·.Event)).length:=by simp [rowP]
 rw [h1,Qqb h];exact Nat.le_trans (List.length_filter_le _ _) this
theorem Q25:Qfm a=some (Qt0 a):=by
 have hs:=h.small.1;have hst:=h.st;have hal:=h.small.2.1;have hb:a.zO.length<1000000000000:=hs.1;obtain ⟨hF,_,hcl⟩:=Qz7 h;have hFl:=hF.len;unfold Qfm Qb7;obtain ⟨fuel,hfu,hge⟩ : ∃ f,Qbb=f∧1099511627776≤f:=⟨_,rfl,Nat.le_refl _⟩;rw [hfu,Q9e h,Option.bind_some,Qbax (by unfold lim;omega),Option.bind_some];unfold Qt0;generalize Qq2 a=F at hF hcl hFl;show Option.bind (Qbi _ fuel (((0:Nat):Int),[],[],[],[],[])) _=_;rw [Qix (len:=F.length) (R:=List Int×List Int×List Qc×List Int×List Qc) (fun n (acc:List Int×List Qc)=>((n:Int),([]:List Int),([]:List Int),([]:List Qc),acc.1,acc.2)) (fun n acc=>acc.1.length≤n∧acc.2.length≤32*n)
  (fun n acc=>some (([]:List Int),([]:List Int),([]:List Qc),acc.1++Qwz a.zP n (F.drop n),acc.2++Qw0 a F n (F.drop n))) ?_ ?_ fuel 0 ([],[]) (Nat.zero_le _) (by omega) ⟨Nat.zero_le _,Nat.zero_le _⟩]
 ·simp
 ·rintro k n ⟨ms,es⟩ hn ⟨k1,k2⟩ ih;replace k1:ms.length≤n:=k1;replace k2:es.length≤32*n:=k2;have hg:=List.getElem?_eq_getElem hn;dsimp only;rw [if_pos (by omega),Qx hn];simp only [Option.bind_some];rw [Qbh6 hs.2.1];simp only [Option.bind_some];have hrl:=Qbgx h (F:=F) (i:=n) (s:=F[n]);rw [List.drop_eq_getElem_cons hn];simp only [Qwz,Qw0];by_cases hm:F[n]∈a.zP
  ·simp only [hm,decide_true,if_true];rw [Q3 (by simp only [List.length_cons,List.length_nil];unfold lim;omega)];simp only [Option.bind_some];have:=Q4n h fuel hge hF hcl hg (ms++[(n:Int)]) es (by omega);rw [Qx hn] at this;simp only [Option.bind_some] at this;rw [this];simp only [Option.bind_some];rw [Qbq (by omega),ih (ms++[(n:Int)],es++rowP a F n F[n]) ⟨by simp only [List.length_append,List.length_cons,List.length_nil];omega,by simp only [List.length_append];omega⟩];simp only [List.append_assoc]
  ·simp only [hm,decide_false,Bool.false_eq_true,if_false,Option.bind_some];have:=Q4n h fuel hge hF hcl hg ms es (by omega);rw [Qx hn] at this;simp only [Option.bind_some] at this;rw [this];simp only [Option.bind_some];rw [Qbq (by omega),ih (ms,es++rowP a F n F[n]) ⟨by simp only;omega,by simp only [List.length_append];omega⟩];simp only [List.append_assoc,List.nil_append]
 ·rintro k ⟨ms,es⟩ _;dsimp only;rw [if_neg (by omega)];simp [Qwz,Qw0]
end
end Go.Abs
end
section
namespace Go.Abs
open Go
structure Evs (l:List Int):Prop where
 rg:∀ x∈l,0≤x∧x<5
 so:l.Pairwise (· < ·)
theorem Evs.len {l:List Int} (h:Evs l):l.length≤5:=by have:=Qh4 h.so h.rg;simpa using this
def Qbev:List Int→Bool
 | []=>true
 | x::xs=>xs.all (fun y=>decide (x<y))&&Qbev xs
theorem Q26:∀ {l:List Int},Qbev l=true→l.Pairwise (· < ·)
 | [],_=>.nil
 | x::xs,h=>by
  simp only [Qbev,Bool.and_eq_true,List.all_eq_true,decide_eq_true_eq] at h;exact List.pairwise_cons.2 ⟨h.1,Q26 h.2⟩
def evB (s:Nat):Bool:=match Qb3 (s:Int) with
 | some l=>Qbev l&&l.all fun x=>decide (0≤x)&&decide (x<5)
 | none=>false
theorem Qbjk:(List.range 256).all evB=true:=by kernel_rfl
theorem Q7y {s:Int} (h0:0≤s) (h1:s<256):∃ l,Qb3 s=some l∧Evs l:=by
 have:=List.all_eq_true.1 Qbjk s.toNat (List.mem_range.2 (by omega));unfold evB at this;rw [show ((s.toNat:Nat):Int)=s from by omega] at this;split at this
 ·rename_i l hl;simp only [Bool.and_eq_true,List.all_eq_true,decide_eq_true_eq] at this;exact ⟨l,hl,fun x hx=>this.2 x hx,Q26 this.1⟩
 ·cases this
structure Mks (n:Nat) (ms:List Int):Prop where
 rg:∀ x∈ms,0≤x∧x<n
 so:ms.Pairwise (· < ·)
structure Eds (al:List Int) (N:Int) (i k:Nat) (es:List Qc):Prop where
 rg:∀ x∈es,0≤x.From∧0≤x.To∧x.To<N∧x.Event∈al∧(x.From<i∨x.From=i∧∃ j:Nat,j<k∧al[j]? = some x.Event)
 so:es.Pairwise Qjb
 ln:es.length≤5*i+k
theorem Mks.up {n:Nat} {ms:List Int} (h:Mks n ms):Mks (n+1) ms:=⟨fun x hx=>by have:=h.rg x hx;omega,h.so⟩
theorem Mks.add {n:Nat} {ms:List Int} (h:Mks n ms):Mks (n+1) (ms++[(n:Int)]):=by
 refine ⟨fun x hx=>?_,?_⟩
 ·rcases List.mem_append.1 hx with hx|hx
  ·have:=h.rg x hx;omega
  ·simp at hx;omega
 ·rw [List.pairwise_append];exact ⟨h.so,by simp,fun x hx y hy=>by simp at hy;have:=h.rg x hx;omega⟩
theorem Mks.len {n:Nat} {ms:List Int} (h:Mks n ms):ms.length≤n:=by have:=Qh4 h.so h.rg;simpa using this
section
variable {al:List Int} (hal:Evs al) {N:Int} {i k:Nat} {es:List Qc}
theorem Eds.up (h:Eds al N i k es):Eds al N i (k+1) es:=⟨fun x hx=>by
 obtain ⟨h1,h2,h3,h4,h5⟩:=h.rg x hx;refine ⟨h1,h2,h3,h4,?_⟩;rcases h5 with h5|⟨h5,j,h6,h7⟩
 ·exact .inl h5
 ·exact .inr ⟨h5,j,by omega,h7⟩,h.so,by have:=h.ln;omega⟩
theorem Eds.next (h:Eds al N i k es) (hk:k≤5):Eds al N (i+1) 0 es:=⟨fun x hx=>by
 obtain ⟨h1,h2,h3,h4,h5⟩:=h.rg x hx;exact ⟨h1,h2,h3,h4,.inl (by rcases h5 with h5|⟨h5,_⟩<;>omega)⟩,h.so,by have:=h.ln;omega⟩
include hal in
theorem Eds.add (h:Eds al N i k es) (hk:k<al.length) {t:Int} (ht:0≤t∧t<N):Eds al N i (k+1) (es++[⟨(i:Int),al[k],t⟩]):=by
 refine ⟨fun x hx=>?_,?_,by have:=h.ln;simp only [List.length_append,List.length_cons,List.length_nil];omega⟩
 ·rcases List.mem_append.1 hx with hx|hx
  ·exact h.up.rg x hx
  ·simp at hx;subst hx;exact ⟨by simp only;omega,ht.1,ht.2,List.getElem_mem hk,.inr ⟨rfl,k,by omega,List.getElem?_eq_getElem hk⟩⟩
 ·rw [List.pairwise_append];refine ⟨h.so,by simp,fun x hx y hy=>?_⟩;simp at hy;subst hy;obtain ⟨_,_,_,_,h5⟩:=h.rg x hx;rcases h5 with h5|⟨h5,j,h6,h7⟩
  ·exact .inl h5
  ·refine .inr ⟨h5,?_⟩;obtain ⟨h8,h9⟩:=List.getElem?_eq_some_iff.1 h7;rw [← h9];exact List.pairwise_iff_getElem.1 hal.so j k h8 hk h6
end
structure Qbew (g:Qcc):Prop where
 st:0≤g.zS∧g.zS<256
 to:∀ x∈[g.To.1.1,g.To.1.2.1,g.To.1.2.2.1,g.To.1.2.2.2.1,g.To.1.2.2.2.2,g.To.2.1.1,g.To.2.1.2.1,g.To.2.1.2.2.1,g.To.2.1.2.2.2.1,g.To.2.1.2.2.2.2,g.To.2.2.1.1,g.To.2.2.1.2.1,g.To.2.2.1.2.2.1,g.To.2.2.1.2.2.2.1,g.To.2.2.1.2.2.2.2,g.To.2.2.2.1.1,g.To.2.2.2.1.2.1,g.To.2.2.2.1.2.2.1,g.To.2.2.2.1.2.2.2.1,g.To.2.2.2.1.2.2.2.2,g.To.2.2.2.2.1,g.To.2.2.2.2.2.1,g.To.2.2.2.2.2.2.1,g.To.2.2.2.2.2.2.2.1,g.To.2.2.2.2.2.2.2.2],0≤x∧x<256
theorem Qbay {al:List Int} (hal:Evs al) (fuel:Nat) (hfu:1099511627776≤fuel) {L:List Int} (hL:L.length=25) (hL2:∀ x∈L,0≤x∧x<256) {N:Int} (hN:1≤N∧N≤5) {i:Nat} (hi:(i:Int)<N) {ms:List Int} {es:List Qc} (hes:Eds al N i 0 es) :
  ∃ es',Eds al N (i+1) 0 es'∧Qbi (fun (k25:Int×List Qc→Option (List Int×List Qc)) ((k23,a24):Int×(List Qc))=>(((if (k23<(al.length:Int)) then some (decide (k23<5)) else some false)).bind fun (x27:Bool)=>(if x27 then ((((inO 5 (i:Int)).bind fun _=>((inO 5 k23).bind fun _=>((rowO L (Int.toNat (i:Int)*5+Int.toNat k23*1)).bind fun x31=>((remO .i64 (IntKind.wrap .i64 x31) (IntKind.wrap .i64 (N+2))).bind fun s33=>(if (s33<N) then ((getO al k23).bind fun x36=>((appO a24 [(Qc.mk (i:Int) x36 s33)]).bind fun x38=>some x38)) else some a24)))))).bind fun (a40:List Qc)=>k25 ((IntKind.wrap .i64 (k23+1)),a40)) else some (ms,a24)))) fuel (0,es)=some (ms,es'):=by
 have hl:=hal.len;have:=Qfj (F:=fun (k25:Int×List Qc→Option (List Int×List Qc)) ((k23,a24):Int×(List Qc))=>(((if (k23<(al.length:Int)) then some (decide (k23<5)) else some false)).bind fun (x27:Bool)=>(if x27 then ((((inO 5 (i:Int)).bind fun _=>((inO 5 k23).bind fun _=>((rowO L (Int.toNat (i:Int)*5+Int.toNat k23*1)).bind fun x31=>((remO .i64 (IntKind.wrap .i64 x31) (IntKind.wrap .i64 (N+2))).bind fun s33=>(if (s33<N) then ((getO al k23).bind fun x36=>((appO a24 [(Qc.mk (i:Int) x36 s33)]).bind fun x38=>some x38)) else some a24)))))).bind fun (a40:List Qc)=>k25 ((IntKind.wrap .i64 (k23+1)),a40)) else some (ms,a24))))
  (fun x=>∃ k:Nat,x.1=(k:Int)∧k≤al.length∧Eds al N i k x.2) (fun x=>al.length-x.1.toNat) (fun _ r=>∃ es',r=some (ms,es')∧Eds al N (i+1) 0 es') (by
   rintro kk ⟨k,es⟩ ⟨k,rfl,hk,he⟩ ih;replace he:Eds al N i k es:=he;replace hk:k≤al.length:=hk;dsimp only;by_cases hlt:k<al.length
   ·rw [if_pos (by omega)];simp only [Option.bind_some,show decide ((k:Int)<5)=true from by simp;omega,if_true];rw [show inO 5 (i:Int)=some () from by unfold inO;rw [if_pos (by omega)],show inO 5 (k:Int)=some () from by unfold inO;rw [if_pos (by omega)]];simp only [Option.bind_some,Int.toNat_natCast];have hidx:i*5+k*1<L.length:=by omega
    have hx:=hL2 _ (List.getElem_mem hidx);rw [show rowO L (i*5+k*1)=some L[i*5+k*1] from by unfold rowO;exact List.getElem?_eq_getElem hidx];simp only [Option.bind_some];rw [Qh3 (x:=L[i*5+k*1]) (by omega) (by omega),Qh3 (x:=N+2) (by omega) (by omega),show remO .i64 L[i*5+k*1] (N+2)=some (L[i*5+k*1].tmod (N+2)) from by unfold remO;rw [if_neg (by omega)]];simp only [Option.bind_some];have hmod:0≤L[i*5+k*1].tmod (N+2):=Int.tmod_nonneg _ hx.1;have hln:=he.ln;by_cases hm:L[i*5+k*1].tmod (N+2)<N
    ·rw [if_pos hm,Qx hlt];simp only [Option.bind_some];rw [Q3 (by simp only [List.length_cons,List.length_nil];unfold lim;omega)];simp only [Option.bind_some];rw [Qbq (by omega)];exact ih _ ⟨k+1,rfl,hlt,he.add hal hlt ⟨hmod,hm⟩⟩ (by simp only;omega)
    ·rw [if_neg hm];simp only [Option.bind_some];rw [Qbq (by omega)];exact ih _ ⟨k+1,rfl,hlt,he.up⟩ (by simp only;omega)
   ·rw [if_neg (by omega)];exact ⟨es,rfl,he.next (by omega)⟩) fuel (0,es) ⟨0,rfl,Nat.zero_le _,hes⟩ (by simp only;omega)
 obtain ⟨es',h1,h2⟩:=this;exact ⟨es',h2,h1⟩
theorem Q9f {al:List Int} (hal:Evs al):Right ⟨al,0,[],[]⟩ :=
 ⟨fun x hx=>by have:=hal.rg x hx;omega,hal.so,⟨by simp,by simp⟩,by simp,.nil,by simp,.nil⟩
theorem Qbex {al:List Int} (hal:Evs al) {g:Qcc} (hg:Qbew g):∃ m,Right m∧m.zO=al∧Qhq al g=some (Qt0 m)∧m.zS≤5:=by
 have hl:=hal.len;obtain ⟨hst,hto⟩:=hg;unfold Qhq Qdg;obtain ⟨fuel,hfu,hge⟩ : ∃ f,Qbb=f∧1099511627776≤f:=⟨_,rfl,Nat.le_refl _⟩;rw [hfu,Qbax (by unfold lim;omega)];simp only [Option.bind_some];by_cases h250:g.zS≥250
 ·rw [if_pos h250];exact ⟨⟨al,0,[],[]⟩,Q9f hal,rfl,rfl,by simp⟩
 rw [if_neg h250];have hL:[g.To.1.1,g.To.1.2.1,g.To.1.2.2.1,g.To.1.2.2.2.1,g.To.1.2.2.2.2,g.To.2.1.1,g.To.2.1.2.1,g.To.2.1.2.2.1,g.To.2.1.2.2.2.1,g.To.2.1.2.2.2.2,g.To.2.2.1.1,g.To.2.2.1.2.1,g.To.2.2.1.2.2.1,g.To.2.2.1.2.2.2.1,g.To.2.2.1.2.2.2.2,g.To.2.2.2.1.1,g.To.2.2.2.1.2.1,g.To.2.2.2.1.2.2.1,g.To.2.2.2.1.2.2.2.1,g.To.2.2.2.1.2.2.2.2,g.To.2.2.2.2.1,g.To.2.2.2.2.2.1,g.To.2.2.2.2.2.2.1,g.To.2.2.2.2.2.2.2.1,g.To.2.2.2.2.2.2.2.2].length=25:=rfl;generalize [g.To.1.1,g.To.1.2.1,g.To.1.2.2.1,g.To.1.2.2.2.1,g.To.1.2.2.2.2,g.To.2.1.1,g.To.2.1.2.1,g.To.2.1.2.2.1,g.To.2.1.2.2.2.1,g.To.2.1.2.2.2.2,g.To.2.2.1.1,g.To.2.2.1.2.1,g.To.2.2.1.2.2.1,g.To.2.2.1.2.2.2.1,g.To.2.2.1.2.2.2.2,g.To.2.2.2.1.1,g.To.2.2.2.1.2.1,g.To.2.2.2.1.2.2.1,g.To.2.2.2.1.2.2.2.1,g.To.2.2.2.1.2.2.2.2,g.To.2.2.2.2.1,g.To.2.2.2.2.2.1,g.To.2.2.2.2.2.2.1,g.To.2.2.2.2.2.2.2.1,g.To.2.2.2.2.2.2.2.2]=L at hto hL ⊢;have hmod:0≤g.zS.tmod 5∧g.zS.tmod 5<5:=⟨Int.tmod_nonneg _ hst.1,Int.tmod_lt_of_pos _ (by omega)⟩;have hN:1≤IntKind.wrap .i64 (1+(IntKind.wrap .i64 (Int.tmod g.zS 5)))∧IntKind.wrap .i64 (1+(IntKind.wrap .i64 (Int.tmod g.zS 5)))≤5:=by
  rw [Qh3 (x:=g.zS.tmod 5) (by omega) (by omega),Qh3 (by omega) (by omega)];omega
 generalize IntKind.wrap .i64 (1+(IntKind.wrap .i64 (Int.tmod g.zS 5)))=N at hN ⊢;have hloop:=Qfj (F:=(fun (k15:Int×List Int×List Int×List Qc×Int×List Int×List Qc→Option (List Int×List Int×List Qc×Int×List Int×List Qc)) ((i8,c9,c10,c11,a12,a13,a14):Int×(List Int)×(List Int)×(List Qc)×Int×(List Int)×(List Qc))=>(if (i8<a12) then ((((((shrO .u8 g.Marks i8).bind fun s17=>(if ((andI .u8 s17 1)==1) then ((appO a13 [i8]).bind fun x20=>some x20) else some a13))).bind fun (a22:List Int)=>Qbi (fun k25 ((k23,a24):Int×(List Qc))=>(((if (k23<(al.length:Int)) then some (decide (k23<5)) else some false)).bind fun (x27:Bool)=>(if x27 then ((((inO 5 i8).bind fun _=>((inO 5 k23).bind fun _=>((rowO L (Int.toNat i8*5+Int.toNat k23*1)).bind fun x31=>((remO .i64 (IntKind.wrap .i64 x31) (IntKind.wrap .i64 (a12+2))).bind fun s33=>(if (s33<a12) then ((getO al k23).bind fun x36=>((appO a24 [(Qc.mk i8 x36 s33)]).bind fun x38=>some x38)) else some a24)))))).bind fun (a40:List Qc)=>k25 ((IntKind.wrap .i64 (k23+1)),a40)) else some (a22,a24)))) fuel (0,a14))).bind fun ((a41,a42):(List Int)×(List Qc))=>k15 ((IntKind.wrap .i64 (i8+1)),c9,c10,c11,a12,a41,a42)) else some (c9,c10,c11,a12,a13,a14))))
  (fun x=>∃ (i:Nat) (ms:List Int) (es:List Qc),x=((i:Int),[],[],[],N,ms,es)∧(i:Int)≤N∧Mks i ms∧Eds al N i 0 es) (fun x=>(N-x.1).toNat)
  (fun _ r=>∃ (i:Nat) (ms:List Int) (es:List Qc),r=some ([],[],[],N,ms,es)∧(i:Int)=N∧Mks i ms∧Eds al N i 0 es) (by
   rintro k _ ⟨i,ms,es,rfl,hi,hm,he⟩ ih;dsimp only;by_cases hlt:(i:Int)<N
   ·rw [if_pos hlt,show shrO .u8 g.Marks (i:Int)=some (g.Marks.fdiv (2 ^ (min (Int.toNat (i:Int)) (IntKind.bits .u8)))) from by unfold shrO;rw [if_neg (by omega)]];simp only [Option.bind_some];have hml:=hm.len;by_cases hb:(andI .u8 (g.Marks.fdiv (2 ^ (min (Int.toNat (i:Int)) (IntKind.bits .u8)))) 1==1)=true
    ·rw [if_pos hb,Q3 (by simp only [List.length_cons,List.length_nil];unfold lim;omega)];simp only [Option.bind_some];obtain ⟨es',h1,h2⟩:=Qbay hal fuel hge hL hto hN hlt (ms:=ms++[(i:Int)]) he;rw [h2];simp only [Option.bind_some];rw [Qbq (by omega)];exact ih _ ⟨i+1,_,_,rfl,by omega,hm.add,h1⟩ (by simp only;omega)
    ·rw [if_neg hb];simp only [Option.bind_some];obtain ⟨es',h1,h2⟩:=Qbay hal fuel hge hL hto hN hlt (ms:=ms) he;rw [h2];simp only [Option.bind_some];rw [Qbq (by omega)];exact ih _ ⟨i+1,_,_,rfl,by omega,hm.up,h1⟩ (by simp only;omega)
   ·rw [if_neg hlt];exact ⟨i,ms,es,rfl,by omega,hm,he⟩) fuel (0,[],[],[],N,[],[]) ⟨0,[],[],rfl,by omega,⟨by simp,.nil⟩,⟨by simp,.nil,by simp⟩⟩ (by simp only;omega)
 obtain ⟨i,ms,es,h1,h2,h3,h4⟩:=hloop;rw [h1];simp only [Option.bind_some];have hr:Right ⟨al,N,ms,es⟩:=⟨fun x hx=>by have:=hal.rg x hx;omega,hal.so,⟨by simp only;omega,by simp only;omega⟩,fun x hx=>by have:=h3.rg x hx;simp only;omega,h3.so,fun x hx=>by
  obtain ⟨k1,k2,k3,k4,k5⟩:=h4.rg x hx;refine ⟨k1,?_,k2,k3,k4⟩;rcases k5 with k5|⟨_,j,k6,_⟩
  ·simp only;omega
  ·omega,h4.so⟩
 rw [Q25 hr];exact ⟨_,hr,rfl,rfl,by simp only;omega⟩
end Go.Abs
end
section
namespace Go.Abs
open Go
theorem Q51 {α β:Type} {o:Option α} {K:α→Option β} {r:Option β} {P:α→Prop} (h:∃ v,o=some v∧P v) (hk:∀ v,P v→K v=r):o.bind K=r:=by
 obtain ⟨v,rfl,hv⟩:=h;exact hk v hv
def upto (n:Int):List Int:=(List.range n.toNat).map fun (i:Nat)=>(i:Int)
theorem Qim {n x:Int}:x∈upto n↔0≤x∧x<n:=by
 simp only [upto,List.mem_map,List.mem_range];constructor
 ·rintro ⟨i,hi,rfl⟩;omega
 ·rintro ⟨h1,h2⟩;exact ⟨x.toNat,by omega,by omega⟩
theorem Qn1 (n:Int):(upto n).Pairwise (· < ·):=by
 unfold upto;rw [List.pairwise_map];exact List.pairwise_lt_range.imp fun h=>by omega
theorem Qbm (n:Int):(upto n).length=n.toNat:=by simp [upto]
theorem Qkb {n:Int} {i:Nat} (h:i<(upto n).length):(upto n)[i]=(i:Int):=by simp [upto]
theorem Qc6 {X S R α:Type} {F:(X→Option R)→X→Option R} {fuel:Nat} {l:List α} (mk:Int→S→X) (stp:S→α→S) (I:Nat→S→Prop) (K:S→Option R) (hl:l.length<big) (hf:1099511627776≤fuel)
  (step:∀ (k:X→Option R) (n:Nat) (s:S) (h:n<l.length),I n s→F k (mk n s)=k (mk (IntKind.wrap .i64 ((n:Int)+1)) (stp s l[n])))
  (keep:∀ (n:Nat) (s:S) (h:n<l.length),I n s→I (n+1) (stp s l[n]))
  (last:∀ (k:X→Option R) (s:S),I l.length s→F k (mk l.length s)=K s) {s0:S} (h0:I 0 s0):Qbi F fuel (mk 0 s0)=K (l.foldl stp s0):=by
 have hb:l.length<1000000000000:=hl;have:=Qix (F:=F) (len:=l.length) (fun n s=>mk n s) I (fun n s=>K ((l.drop n).foldl stp s)) (fun k n s hn hi ih=>by
  rw [step k n s hn hi,Qbq (by omega),ih _ (keep n s hn hi),List.drop_eq_getElem_cons hn,List.foldl_cons]) (fun k s hi=>by rw [last k s hi];simp) fuel 0 s0 (Nat.zero_le _) (by omega) h0
 simpa using this
theorem Q52 {S α:Type} {l:List α} {stp:S→α→S} {I:Nat→S→Prop} (keep:∀ (n:Nat) (s:S) (h:n<l.length),I n s→I (n+1) (stp s l[n])) {s0:S} (h0:I 0 s0):I l.length (l.foldl stp s0):=by
 have:∀ (m n:Nat) (s:S),n+m=l.length→I n s→I l.length ((l.drop n).foldl stp s):=by
  intro m
  induction m with
  | zero =>
   intro n s hn hi;obtain rfl:n=l.length:=by omega
   simpa using hi
  | succ m ih =>
   intro n s hn hi;have hlt:n<l.length:=by omega
   rw [List.drop_eq_getElem_cons hlt,List.foldl_cons];exact ih (n+1) _ (by omega) (keep n s hlt hi)
 simpa using this l.length 0 s0 (by omega) h0
theorem Qsm {X R α:Type} {F:(X→Option R)→X→Option R} {fuel:Nat} {l:List α} (mk:Int→X) (p:α→Bool) (hit:α→Option R) (K:Option R) (hl:l.length<big) (hf:1099511627776≤fuel)
  (step:∀ (k:X→Option R) (n:Nat) (h:n<l.length),F k (mk n)=if p l[n] then hit l[n] else k (mk (IntKind.wrap .i64 ((n:Int)+1))))
  (last:∀ (k:X→Option R),F k (mk l.length)=K):Qbi F fuel (mk 0)=match l.find? p with|some x=>hit x|none=>K:=by
 have hb:l.length<1000000000000:=hl;have:=Qix (F:=F) (len:=l.length) (fun n (_:Unit)=>mk n) (fun _ _=>True) (fun n _=>match (l.drop n).find? p with|some x=>hit x|none=>K) (fun k n s hn hi ih=>by
  rw [step k n hn,Qbq (by omega),ih () trivial,List.drop_eq_getElem_cons hn,List.find?_cons];cases p l[n]<;>simp) (fun k s hi=>by rw [last k];simp) fuel 0 () (Nat.zero_le _) (by omega) trivial
 simpa using this
theorem Qbgy {X α:Type} {F:(X→Option Bool)→X→Option Bool} {fuel:Nat} {l:List α} (mk:Int→X) (p:α→Bool) (hl:l.length<big) (hf:1099511627776≤fuel)
  (step:∀ (k:X→Option Bool) (n:Nat) (h:n<l.length),F k (mk n)=if p l[n] then some true else k (mk (IntKind.wrap .i64 ((n:Int)+1))))
  (last:∀ (k:X→Option Bool),F k (mk l.length)=some false):Qbi F fuel (mk 0)=some (l.any p):=by
 rw [Qsm mk p (fun _=>some true) (some false) hl hf step last];cases h:l.find? p with
 | none =>
  show some false=some (l.any p);rw [List.any_eq_false.2 (List.find?_eq_none.1 h)]
 | some x =>
  show some true=some (l.any p);rw [List.any_eq_true.2 ⟨x,List.mem_of_find?_eq_some h,List.find?_some h⟩]
def at0 {α:Type} (d:α) (l:List α) (x:Int):α:=l.getD x.toNat d
abbrev lf (L:List Bool) (x:Int):Bool:=at0 false L x
abbrev ati (l:List Int) (x:Int):Int:=at0 0 l x
theorem Ql3 {α:Type} {d:α} {l:List α} {x:Int} (h0:0≤x) (h1:x<l.length):getO l x=some (at0 d l x):=by
 have h:x.toNat<l.length:=by omega
 unfold getO at0;rw [if_pos h0,List.getD_eq_getElem?_getD,List.getElem?_eq_getElem h];rfl
theorem Qkm {α:Type} {l:List α} {x:Int} {y:α} (h0:0≤x) (h1:x<l.length):setO l x y=some (l.set x.toNat y):=by
 unfold setO;rw [if_pos ⟨h0,by omega⟩]
theorem Qkf {n:Nat} {x:Int} (h0:0≤x) (h1:x<n):inO n x=some ():=by
 unfold inO;rw [if_pos ⟨h0,h1⟩]
theorem Qof {α:Type} {l:List α} {n:Nat} (h:l.length=n):lenO l n=some ():=by
 unfold lenO;rw [if_pos h]
theorem Qbaz {α:Type} {d:α} {l:List α} {x y:Int} {v:α} (hx:0≤x∧x<l.length) (hy:0≤y):at0 d (l.set x.toNat v) y=if y=x then v else at0 d l y:=by
 unfold at0;simp only [List.getD_eq_getElem?_getD,List.getElem?_set];by_cases h:y=x
 ·subst h;rw [if_pos rfl,if_pos (by omega),if_pos rfl];rfl
 ·rw [if_neg (by omega),if_neg h]
theorem Qz8 {l:List Int} {x y v:Int} (hx:0≤x∧x<l.length) (hy:0≤y):ati (l.set x.toNat v) y=if y=x then v else ati l y:=Qbaz hx hy
theorem Qbky {l:List Bool} {x y:Int} {v:Bool} (hx:0≤x∧x<l.length) (hy:0≤y):lf (l.set x.toNat v) y=if y=x then v else lf l y:=Qbaz hx hy
theorem Q7z {α:Type} {d:α} {v:α} {n:Nat} {x:Int} (h0:0≤x) (h1:x<n):at0 d (List.replicate n v) x=v:=by
 have h:x.toNat<n:=by omega
 unfold at0;simp [List.getD_eq_getElem?_getD,h]
theorem Qog {α:Type} {d:α} {f:Int→α} {n x:Int} (h0:0≤x) (h1:x<n):at0 d ((upto n).map f) x=f x:=by
 have h:x.toNat<n.toNat:=by omega
 unfold at0 upto;simp only [List.map_map,List.getD_eq_getElem?_getD,List.getElem?_map,List.getElem?_range h,Option.map_some,Option.getD_some,Function.comp];congr 1;omega
theorem Qbh8 {α:Type} {d:α} {l:List α} {n:Nat} (h:n<l.length):at0 d l (n:Int)=l[n]:=by
 unfold at0;simp [List.getD_eq_getElem?_getD,h]
theorem Q70 {α:Type} {d:α} {l m:List α} (hl:l.length=m.length) (h:∀ x:Int,0≤x→x<l.length→at0 d l x=at0 d m x):l=m:=by
 apply List.ext_getElem hl;intro i h1 h2;have:=h i (by omega) (by omega)
 rwa [Qbh8 h1,Qbh8 h2] at this
theorem Qy5 {α:Type} {f:Int→α} {n:Int} {l:List α} (hl:l.length=n.toNat):(upto n).foldl (fun c i=>c.set i.toNat (f i)) l=(upto n).map f:=by
 have key:∀ (m:Nat),m≤n.toNat→((upto n).take m).foldl (fun c i=>c.set i.toNat (f i)) l=((upto n).take m).map f++l.drop m:=by
  intro m
  induction m with
  | zero=>intro _;simp
  | succ m ih =>
   intro hm;have h1:m<(upto n).length:=by rw [Qbm];omega
   rw [List.take_succ_eq_append_getElem h1,List.foldl_append,ih (by omega),List.foldl_cons,List.foldl_nil,List.map_append,Qkb h1];simp only [Int.toNat_natCast,List.map_cons,List.map_nil];have h2:(((upto n).take m).map f).length=m:=by rw [List.length_map,List.length_take,Qbm];omega
   rw [List.set_append_right _ _ (by omega),h2,Nat.sub_self];have h3:m<l.length:=by omega
   rw [List.drop_eq_getElem_cons h3,List.set_cons_zero,List.append_assoc,List.singleton_append]
 have:=key n.toNat (Nat.le_refl _);rw [List.take_of_length_le (by rw [Qbm];omega)] at this;rw [this,List.drop_of_length_le (by omega),List.append_nil]
theorem Q53 {α β:Type} {f:β→Nat} {g:β→α}:∀ {l:List β} {c:List α},(l.foldl (fun c x=>c.set (f x) (g x)) c).length=c.length
 | [],c=>rfl
 | x::l,c=>by rw [List.foldl_cons,Q53 (l:=l),List.length_set]
end Go.Abs
end
section
namespace Go.Abs
open Go
theorem Qbjl (x y:Int):Qks x y=some (decide (x<y)):=by
 unfold Qks Qgi Qp7 Qev;simp
theorem Qbgz (x:Int):Qjh x=some false:=by
 unfold Qjh Qdn;simp
theorem Qbey {l:List Int} (h:l.Pairwise (· < ·)) (v:Int):l.Pairwise fun a b=>decide (b<v)=true→decide (a<v)=true :=
 h.imp fun h=>by simp;omega
theorem Qbez {l:List Int} {v:Int} (hs:l.Pairwise (· < ·)) (hl:l.length<big):∃ n,Qfl l v=some (n,decide (v∈l)):=by
 have hc:=fun n h=>Qz6 (p:=fun x:Int=>decide (x<v)) (Qbey hs v) n h;have hcl:(l.filter fun x=>decide (x<v)).length≤l.length:=List.length_filter_le _ _;generalize (l.filter fun x=>decide (x<v)).length=c at hc hcl;have hb:l.length<1000000000000:=hl;unfold Qfl Qb6;obtain ⟨fuel,hfu,hge⟩ : ∃ f,Qbb=f∧1099511627776≤f:=⟨_,rfl,Nat.le_refl _⟩;rw [hfu];have hloop:=Qfj (F:=fun (k5:Int×Int→Option Int) ((i3,j4):Int×Int)=>(if (i3<j4) then ((getO l (IntKind.wrap .i64 (Int.fdiv (IntKind.wrap .u64 (IntKind.wrap .i64 (i3+j4))) (2 ^ (min (Int.toNat 1) (IntKind.bits .u64)))))).bind fun x7=>((Qks x7 v).bind fun x10=>(if x10 then k5 ((IntKind.wrap .i64 ((IntKind.wrap .i64 (Int.fdiv (IntKind.wrap .u64 (IntKind.wrap .i64 (i3+j4))) (2 ^ (min (Int.toNat 1) (IntKind.bits .u64)))))+1)),j4) else k5 (i3,(IntKind.wrap .i64 (Int.fdiv (IntKind.wrap .u64 (IntKind.wrap .i64 (i3+j4))) (2 ^ (min (Int.toNat 1) (IntKind.bits .u64))))))))) else some i3))
  (fun x=>∃ i j:Nat,x=((i:Int),(j:Int))∧i≤c∧c≤j∧j≤l.length) (fun x=>(x.2-x.1).toNat) (fun _ r=>r=some (c:Int)) (by
   rintro k _ ⟨i,j,rfl,h1,h2,h3⟩ ih;dsimp only;by_cases hij:i<j
   ·rw [if_pos (by omega),Qbh5 (by omega) (by omega)];have hm:(i+j) / 2<l.length:=by omega
    rw [Qx hm];simp only [Option.bind_some];rw [Qbjl];simp only [Option.bind_some];have hcm:=hc ((i+j) / 2) hm;by_cases hlt:l[(i+j) / 2]<v
    ·rw [if_pos (by simpa using hlt),Qbq (by omega)];have:(i+j) / 2<c:=hcm.1 (by simpa using hlt);exact ih _ ⟨_,_,rfl,by omega,h2,h3⟩ (by simp only;omega)
    ·rw [if_neg (by simpa using hlt)];have:¬ (i+j) / 2<c:=fun h=>hlt (by simpa using hcm.2 h);exact ih _ ⟨_,_,rfl,h1,by omega,by omega⟩ (by simp only;omega)
   ·rw [if_neg (by omega)];have:i=c:=by omega
    rw [this]) fuel (0,(l.length:Int)) ⟨0,l.length,rfl,by omega,hcl,Nat.le_refl _⟩ (by simp only;omega)
 rw [hloop];simp only [Option.bind_some];have hmem:v∈l↔∃ h:c<l.length,l[c]=v:=by
  constructor
  ·intro hv;obtain ⟨j,hj,rfl⟩:=List.getElem_of_mem hv;have h1:¬ j<c:=fun h=>by have:=(hc j hj).2 h;simp at this
   have h2:c<l.length:=by omega
   refine ⟨h2,?_⟩;have h3:¬ l[c]<l[j]:=fun h=>by have:=(hc c h2).1 (by simpa using h);omega
   rcases Nat.lt_or_ge c j with h|h
   ·have:=List.pairwise_iff_getElem.1 hs c j h2 hj h;omega
   ·have:c=j:=by omega
    subst this;rfl
  ·rintro ⟨h,rfl⟩;exact List.getElem_mem h
 by_cases hlt:c<l.length
 ·rw [if_pos (by omega),Qx hlt];simp only [Option.bind_some];by_cases he:l[c]=v
  ·rw [if_pos (by simpa using he)];exact ⟨_,by rw [decide_eq_true (hmem.2 ⟨hlt,he⟩)]⟩
  ·rw [if_neg (by simpa using he),Qbgz];exact ⟨_,by rw [decide_eq_false (fun h=>he (hmem.1 h).2)];rfl⟩
 ·rw [if_neg (by omega)];exact ⟨_,by rw [decide_eq_false (fun h=>hlt (hmem.1 h).1)]⟩
theorem Q54 {l:List Int} (hl:l.length≤lim):Qcb l=some l:=by
 unfold Qcb Qv;rw [Q3 (by simpa using hl)];cases l<;>simp [nilO]
structure Num (a:Qa) (o num:List Int):Prop where
 len:num.length=a.zS.toNat
 at1:∀ s:Nat,s<a.zS.toNat→num[s]? = some (if (s:Int)∈o then (o.idxOf (s:Int):Int) else -1)
theorem Num.set {a:Qa} {o num:List Int} (h:Num a o num) {t:Int} (ht:0≤t∧t<a.zS) (hn:t∉o):∃ num',setO num t (o.length:Int)=some num'∧Num a (o++[t]) num':=by
 refine ⟨num.set t.toNat (o.length:Int),by unfold setO;rw [if_pos ⟨ht.1,by rw [h.len];omega⟩],by rw [List.length_set];exact h.len,fun s hs=>?_⟩;rw [List.getElem?_set];by_cases he:t.toNat=s
 ·subst he;rw [if_pos rfl,if_pos (by rw [h.len];omega),show ((t.toNat:Nat):Int)=t from by omega,if_pos (by simp),List.idxOf_append,if_neg hn];simp
 ·rw [if_neg he,h.at1 s hs];have hne:(s:Int)≠t:=by omega
  by_cases hm:(s:Int)∈o
  ·rw [if_pos hm,if_pos (by simp [hm]),List.idxOf_append,if_pos hm]
  ·rw [if_neg hm,if_neg (by simp [hm,hne])]
section
variable {a:Qa} (h:Right a)
include h
end
end Go.Abs
end
section
namespace Go.Abs
open Go
theorem Qm5 (a b:ByteArray):(a==b)=decide (a=b):=by
 cases a;cases b;rw [Bool.eq_iff_iff];simp only [decide_eq_true_eq,ByteArray.mk.injEq];exact beq_iff_eq (α:=Array UInt8)
theorem Q9g {i j:Nat} (hi:i<10) (hj:j<10) (h:UInt8.ofNat (48+i)=UInt8.ofNat (48+j)):i=j:=by
 have:=congrArg UInt8.toNat h;simp only [UInt8.toNat_ofNat'] at this;omega
theorem Qbh9 {i:Nat} (hi:i<10) (h:UInt8.ofNat (48+i)=32):False:=by
 have:=congrArg UInt8.toNat h;simp only [UInt8.toNat_ofNat'] at this;have h32:(32:UInt8).toNat=32:=rfl;omega
theorem Qbjm {x y:Nat} (hx:x<100) (hy:y<100) {s t:List UInt8} (h:Lib.decDigits x++32::s=Lib.decDigits y++32::t):x=y∧s=t:=by
 by_cases h1:x<10<;>by_cases h2:y<10
 ·rw [Lib.decDigits_one h1,Lib.decDigits_one h2] at h;simp only [List.cons_append,List.nil_append,List.cons.injEq] at h;exact ⟨Q9g h1 h2 h.1,h.2.2⟩
 ·rw [Lib.decDigits_one h1,Lib.decDigits_two h2 hy] at h;simp only [List.cons_append,List.nil_append,List.cons.injEq] at h;exact (Qbh9 (by omega) h.2.1.symm).elim
 ·rw [Lib.decDigits_two h1 hx,Lib.decDigits_one h2] at h;simp only [List.cons_append,List.nil_append,List.cons.injEq] at h;exact (Qbh9 (by omega) h.2.1).elim
 ·rw [Lib.decDigits_two h1 hx,Lib.decDigits_two h2 hy] at h;simp only [List.cons_append,List.nil_append,List.cons.injEq] at h;have e1:=Q9g (by omega) (by omega) h.1;have e2:=Q9g (by omega) (by omega) h.2.1;exact ⟨by omega,h.2.2.2⟩
def Q55 (t:List Int):Prop:=∀ x∈t,0≤x∧x<100
theorem Q71:∀ {l m:List Int},Q55 l→Q55 m→keyL l=keyL m→l=m
 | [],[],_,_,_=>rfl
 | [],y::m,_,_,h=>by
  have:=congrArg List.length h;simp [keyL] at this
 | x::l,[],_,_,h=>by
  have:=congrArg List.length h;simp [keyL] at this
 | x::l,y::m,hl,hm,h=>by
  have hx:=hl x (by simp);have hy:=hm y (by simp);have h' : Lib.decDigits x.toNat++32::keyL l=Lib.decDigits y.toNat++32::keyL m:=by simpa [keyL] using h
  obtain ⟨h1,h2⟩:=Qbjm (by omega) (by omega) h';rw [Q71 (fun z hz=>hl z (by simp [hz])) (fun z hz=>hm z (by simp [hz])) h2,show x=y from by omega]
theorem Qbe0 {l m:List Int} (hl:Q55 l) (hm:Q55 m) (h:keyB l=keyB m):l=m:=by
 unfold keyB at h;simp only [ByteArray.mk.injEq] at h;exact Q71 hl hm (by simpa using congrArg Array.toList h)
theorem Q72 {β:Type} {v:β} {k k' : ByteArray}:∀ {m:List (ByteArray×β)},hasM (setM m k v) k'=(decide (k'=k)||hasM m k')
 | []=>by simp [setM,hasM,Qm5]
 | (q,w)::m=>by
  by_cases h1:k=q
  ·subst h1;simp only [setM,Qm5,decide_true,if_true,Qng];cases decide (k'=k)<;>simp
  ·simp only [setM,Qm5,decide_eq_false h1,Bool.false_eq_true,if_false,Qng,Q72 (m:=m)];cases decide (k'=q)<;>cases decide (k'=k)<;>simp
theorem Q73 {β:Type} {z v:β} {k k' : ByteArray}:∀ {m:List (ByteArray×β)},getM (setM m k v) k' z=if k'=k then v else getM m k' z
 | []=>by simp [setM,getM,Qm5]
 | (q,w)::m=>by
  by_cases h1:k=q
  ·subst h1;by_cases h2:k'=k<;>simp [setM,getM,Qm5,h2]
  ·by_cases h2:k'=q
   ·subst h2;have h3:¬ k'=k:=fun e=>h1 e.symm;simp [setM,getM,Qm5,h1,h3]
   ·simp [setM,getM,Qm5,h1,h2,Q73 (m:=m)]
def MapK (m:List (ByteArray×Int)) (st:List (List Int)):Prop:=∀ r,Q55 r→hasM m (keyB r)=decide (r∈st)∧(r∈st→getM m (keyB r) 0=(st.idxOf r:Int))
theorem MapK.ins {m:List (ByteArray×Int)} {st:List (List Int)} (h:MapK m st) {r:List Int} (hr:r∉st) (hk:Q55 r):MapK (setM m (keyB r) (st.length:Int)) (st++[r]):=by
 intro x hx;obtain ⟨h1,h2⟩:=h x hx;have hiff:keyB x=keyB r↔x=r:=⟨fun e=>Qbe0 hx hk e,fun e=>by rw [e]⟩;refine ⟨?_,fun hm=>?_⟩
 ·rw [Q72,h1,Bool.eq_iff_iff];simp [hiff];exact Or.comm
 ·rw [Q73];by_cases hxr:x=r
  ·subst hxr;rw [if_pos rfl,List.idxOf_append];simp [hr]
  ·rw [if_neg (fun e=>hxr (hiff.1 e))];have hx' : x∈st:=by
    rcases List.mem_append.1 hm with hx|hx
    ·exact hx
    ·simp at hx;exact absurd hx hxr
   rw [h2 hx',List.idxOf_append,if_pos hx']
abbrev TS:=List (List Int)×List Qc×List (ByteArray×Int)
def rowM (stp:List Int→Int→Option (List Int)) (i:Nat) (s:List Int) (p:TS) (e:Int):TS :=
 match stp s e with
 | none=>p
 | some t=>if t∈p.1 then (p.1,p.2.1++[⟨(i:Int),e,(p.1.idxOf t:Int)⟩],p.2.2) else (p.1++[t],p.2.1++[⟨(i:Int),e,(p.1.length:Int)⟩],setM p.2.2 (keyB t) (p.1.length:Int))
def bldM (stp:List Int→Int→Option (List Int)) (mk:List Int→Bool) (al:List Int):Nat→Nat→List Int→TS→List (List Int)×List Int×List Qc
 | 0,_,ms,p=>(p.1,ms,p.2.1)
 | f+1,i,ms,p=>match p.1[i]? with
  | none=>(p.1,ms,p.2.1)
  | some s=>bldM stp mk al f (i+1) (if mk s then ms++[(i:Int)] else ms) (al.foldl (rowM stp i s) p)
structure DomT (stp:List Int→Int→Option (List Int)) (al:List Int) (P:List Int→Prop) (N:Nat):Prop where
 ky:∀ x,P x→Q55 x
 cl:∀ x,P x→∀ e∈al,∀ t,stp x e=some t→P t
 bd:∀ l:List (List Int),l.Nodup→(∀ x∈l,P x)→l.length≤N
 nn:N≤4000
 so:al.Pairwise (· < ·)
 rg:∀ x∈al,0≤x∧x<32
structure FndT (al:List Int) (P:List Int→Prop) (i:Nat) (p:TS):Prop where
 nd:p.1.Nodup
 su:∀ x∈p.1,P x
 mp:MapK p.2.2 p.1
 ed:p.2.1.Pairwise Qjb
 er:∀ x∈p.2.1,0≤x.From∧x.From<i∧0≤x.To∧x.To<p.1.length∧x.Event∈al
theorem Q56 {l:List Int} (h:l.Pairwise (· < ·)) (h0:∀ x∈l,0≤x∧x<32):l.length≤32:=by
 have hr:Right ⟨l,0,[],[]⟩:={ al0:=h0,al:=h,st:=⟨Int.le_refl 0,by show (0:Int)≤4096;decide⟩,ma0:=fun x hx=>by simp at hx,ma:=List.Pairwise.nil,ed0:=fun x hx=>by simp at hx,ed:=List.Pairwise.nil };exact hr.small.2.1
section
variable {stp:List Int→Int→Option (List Int)} {mk:List Int→Bool} {al:List Int} {P:List Int→Prop} {N:Nat} (hd:DomT stp al P N)
structure RowT (al:List Int) (P:List Int→Prop) (i:Nat) (done:List Int) (p0 p:TS):Prop where
 nd:p.1.Nodup
 su:∀ x∈p.1,P x
 mp:MapK p.2.2 p.1
 pre:p0.1 <+: p.1
 ed:p.2.1.Pairwise Qjb
 er:∀ x∈p.2.1,0≤x.From∧x.From≤i∧0≤x.To∧x.To<p.1.length∧x.Event∈al∧(x.From=i→x.Event∈done)
 ln:p.2.1.length≤p0.2.1.length+done.length
include hd
theorem RowT.step {i:Nat} {done:List Int} {p0 p:TS} {s:List Int} {e:Int} (h:RowT al P i done p0 p) (hs:P s) (he:e∈al) (hlt:∀ x∈done,x<e):RowT al P i (done++[e]) p0 (rowM stp i s p e):=by
 have hln:=h.ln;unfold rowM;cases hst:stp s e with
 | none =>
  exact ⟨h.nd,h.su,h.mp,h.pre,h.ed,fun x hx=>by
   obtain ⟨a1,a2,a3,a4,a5,a6⟩:=h.er x hx;exact ⟨a1,a2,a3,a4,a5,fun hf=>List.mem_append_left _ (a6 hf)⟩,by simp only [List.length_append,List.length_cons,List.length_nil];omega⟩
 | some t =>
  have ht:=hd.cl s hs e he t hst;have new:∀ (k:Int),0≤k→∀ (L:List (List Int)),k<L.length→(p.1 <+: L)→(p.2.1++[(⟨(i:Int),e,k⟩ : Qc)]).Pairwise Qjb ∧
    ∀ x∈p.2.1++[(⟨(i:Int),e,k⟩ : Qc)],0≤x.From∧x.From≤i∧0≤x.To∧x.To<L.length∧x.Event∈al∧(x.From=i→x.Event∈done++[e]):=by
   intro k hk L hkL hpre;have hle:=hpre.length_le;refine ⟨List.pairwise_append.2 ⟨h.ed,List.pairwise_singleton _ _,fun x hx y hy=>?_⟩,fun x hx=>?_⟩
   ·simp only [List.mem_singleton] at hy;subst hy;obtain ⟨a1,a2,a3,a4,a5,a6⟩:=h.er x hx;unfold Qjb;dsimp only;by_cases hf:x.From=i
    ·exact .inr ⟨hf,hlt _ (a6 hf)⟩
    ·exact .inl (by omega)
   ·rcases List.mem_append.1 hx with hx|hx
    ·obtain ⟨a1,a2,a3,a4,a5,a6⟩:=h.er x hx;exact ⟨a1,a2,a3,by omega,a5,fun hf=>List.mem_append_left _ (a6 hf)⟩
    ·simp only [List.mem_singleton] at hx;subst hx;exact ⟨by dsimp only;omega,Int.le_refl _,hk,hkL,he,fun _=>by simp⟩
  dsimp only;by_cases hm:t∈p.1
  ·rw [if_pos hm];obtain ⟨k1,k2⟩:=new (p.1.idxOf t:Int) (by omega) p.1 (by have:=List.idxOf_lt_length_of_mem hm;omega) (List.prefix_refl _);exact ⟨h.nd,h.su,h.mp,h.pre,k1,k2,by simp only [List.length_append,List.length_cons,List.length_nil];omega⟩
  ·rw [if_neg hm];obtain ⟨k1,k2⟩:=new (p.1.length:Int) (by omega) (p.1++[t]) (by simp only [List.length_append,List.length_cons,List.length_nil];omega) (List.prefix_append _ _);refine ⟨?_,fun x hx=>?_,h.mp.ins hm (hd.ky t ht),List.IsPrefix.trans h.pre (List.prefix_append _ _),k1,k2,by simp only [List.length_append,List.length_cons,List.length_nil];omega⟩
   ·dsimp only;rw [List.nodup_append];refine ⟨h.nd,by simp,fun a ha b hb=>?_⟩;simp only [List.mem_singleton] at hb;subst hb;rintro rfl;exact hm ha
   ·rcases List.mem_append.1 hx with hx|hx
    ·exact h.su x hx
    ·simp only [List.mem_singleton] at hx;subst hx;exact ht
theorem RowT.fold {i:Nat} {p0:TS} {s:List Int} (hs:P s):∀ {es done:List Int} {p:TS},done++es=al→RowT al P i done p0 p→RowT al P i al p0 (es.foldl (rowM stp i s) p)
 | [],done,p,he,h=>by rw [List.append_nil] at he;subst he;exact h
 | e::es,done,p,he,h=>by
  rw [List.foldl_cons];refine RowT.fold hs (done:=done++[e]) (by rw [← he];simp) (h.step hd hs (by rw [← he];simp) fun x hx=>?_);have:=hd.so;rw [← he,List.pairwise_append] at this;exact this.2.2 x hx e (by simp)
theorem FndT.row {i:Nat} {p:TS} (h:FndT al P i p) {s:List Int} (hs:P s):FndT al P (i+1) (al.foldl (rowM stp i s) p)∧p.1 <+: (al.foldl (rowM stp i s) p).1∧(al.foldl (rowM stp i s) p).2.1.length≤p.2.1.length+al.length:=by
 have:=RowT.fold hd (i:=i) (p0:=p) (p:=p) hs (es:=al) (done:=[]) rfl ⟨h.nd,h.su,h.mp,List.prefix_refl _,h.ed,fun x hx=>by
  obtain ⟨a1,a2,a3,a4,a5⟩:=h.er x hx;exact ⟨a1,by omega,a3,a4,a5,fun hf=>by omega⟩,by simp⟩
 exact ⟨⟨this.nd,this.su,this.mp,this.ed,fun x hx=>by
  obtain ⟨a1,a2,a3,a4,a5,_⟩:=this.er x hx;exact ⟨a1,by omega,a3,a4,a5⟩⟩,this.pre,this.ln⟩
theorem FndT.len {i:Nat} {p:TS} (h:FndT al P i p):p.1.length≤N:=hd.bd _ h.nd h.su
structure MksT (i:Nat) (ms:List Int):Prop where
 rg:∀ x∈ms,0≤x∧x<i
 so:ms.Pairwise (· < ·)
theorem Q4o (mk:List Int→Bool):∀ {f i:Nat} {ms:List Int} {p:TS},FndT al P i p→MksT i ms→i≤p.1.length→N+1≤f+i →
  Right ⟨al,((bldM stp mk al f i ms p).1.length:Int),(bldM stp mk al f i ms p).2.1,(bldM stp mk al f i ms p).2.2⟩∧(∀ x∈(bldM stp mk al f i ms p).1,P x)∧(bldM stp mk al f i ms p).1.length≤N∧p.1 <+: (bldM stp mk al f i ms p).1
 | 0,i,ms,p,h,hm,hi,hf=>by have:=h.len hd;omega
 | f+1,i,ms,p,h,hm,hi,hf=>by
  have hN:=hd.nn;have hl:=h.len hd;rw [bldM];cases hg:p.1[i]? with
  | none =>
   have hi2:i=p.1.length:=by have:=List.getElem?_eq_none_iff.1 hg;omega
   dsimp only;refine ⟨⟨hd.rg,hd.so,⟨by dsimp only;omega,by dsimp only;omega⟩,fun x hx=>?_,hm.so,fun x hx=>?_,h.ed⟩,h.su,hl,List.prefix_refl _⟩
   ·have:=hm.rg x hx;dsimp only;omega
   ·have:=h.er x hx;dsimp only;exact ⟨this.1,by omega,this.2.2.1,this.2.2.2.1,this.2.2.2.2⟩
  | some s =>
   have hs:=h.su s (List.mem_of_getElem? hg);obtain ⟨h1,h2,h3⟩:=h.row hd hs;have hlt:i<p.1.length:=(List.getElem?_eq_some_iff.1 hg).1;have hle:=h2.length_le;dsimp only;obtain ⟨k1,k2,k3,k4⟩:=Q4o mk (f:=f) (i:=i+1) (ms:=if mk s then ms++[(i:Int)] else ms) h1 (by
    split
    ·refine ⟨fun x hx=>?_,List.pairwise_append.2 ⟨hm.so,List.pairwise_singleton _ _,fun a ha b hb=>?_⟩⟩
     ·rcases List.mem_append.1 hx with hx|hx
      ·have:=hm.rg x hx;omega
      ·simp only [List.mem_singleton] at hx;omega
     ·simp only [List.mem_singleton] at hb;have:=hm.rg a ha;omega
    ·exact ⟨fun x hx=>by have:=hm.rg x hx;omega,hm.so⟩) (by omega) (by omega)
   exact ⟨k1,k2,k3,List.IsPrefix.trans h2 k4⟩
end
end Go.Abs
end
section
namespace Go.Abs
open Go
structure Mrg (kp:Bool→Bool→Bool) (l m a b out:List Int):Prop where
 sa:a.Pairwise (· < ·)
 sb:b.Pairwise (· < ·)
 so:out.Pairwise (· < ·)
 oa:∀ o∈out,∀ x∈a,o<x
 ob:∀ o∈out,∀ x∈b,o<x
 ln:out.length+a.length+b.length<big
 eq:∀ x,(x∈out∨kp (decide (x∈a)) (decide (x∈b))=true)↔kp (decide (x∈l)) (decide (x∈m))=true
theorem Mrg.step {kp:Bool→Bool→Bool} (h0:kp false false=false) {l m a b out a' b' : List Int} {z:Int} {p q:Bool} (h:Mrg kp l m a b out) (ha:a=if p then z::a' else a') (hb:b=if q then z::b' else b') (hpq:p=true∨q=true)
  (hza:∀ x∈a',z<x) (hzb:∀ x∈b',z<x):Mrg kp l m a' b' (if kp p q then out++[z] else out):=by
 have ma:∀ x,x∈a↔(p=true∧x=z)∨x∈a':=fun x=>by rw [ha];cases p<;>simp
 have mb:∀ x,x∈b↔(q=true∧x=z)∨x∈b':=fun x=>by rw [hb];cases q<;>simp
 have hoz:∀ o∈out,o<z:=fun o ho=>by
  rcases hpq with rfl|rfl
  ·exact h.oa o ho z ((ma z).2 (.inl ⟨rfl,rfl⟩))
  ·exact h.ob o ho z ((mb z).2 (.inl ⟨rfl,rfl⟩))
 have hm:∀ o,o∈(if kp p q then out++[z] else out)↔o∈out∨(kp p q=true∧o=z):=fun o=>by cases kp p q<;>simp
 have hza' : z∉a':=fun hx=>by have:=hza z hx;omega
 have hzb' : z∉b':=fun hx=>by have:=hzb z hx;omega
 refine ⟨?_,?_,?_,?_,?_,?_,fun x=>?_⟩
 ·have:=h.sa;rw [ha] at this;cases p
  ·exact this
  ·exact (List.pairwise_cons.1 this).2
 ·have:=h.sb;rw [hb] at this;cases q
  ·exact this
  ·exact (List.pairwise_cons.1 this).2
 ·cases kp p q
  ·exact h.so
  ·simp only [if_true];rw [List.pairwise_append];exact ⟨h.so,by simp,fun o ho y hy=>by simp at hy;subst hy;exact hoz o ho⟩
 ·intro o ho x hx;rcases (hm o).1 ho with ho|⟨_,rfl⟩
  ·exact h.oa o ho x ((ma x).2 (.inr hx))
  ·exact hza x hx
 ·intro o ho x hx;rcases (hm o).1 ho with ho|⟨_,rfl⟩
  ·exact h.ob o ho x ((mb x).2 (.inr hx))
  ·exact hzb x hx
 ·have h1:=h.ln;have h2:a.length=a'.length+if p then 1 else 0:=by rw [ha];cases p<;>simp
  have h3:b.length=b'.length+if q then 1 else 0:=by rw [hb];cases q<;>simp
  have h4:(if kp p q then out++[z] else out).length≤out.length+1:=by split<;>simp
  rcases hpq with rfl|rfl<;>simp at h2 h3<;>omega
 ·rw [← h.eq x,hm];by_cases hx:x=z
  ·subst hx;have e1:decide (x∈a)=p:=by rw [Bool.eq_iff_iff,decide_eq_true_eq,ma];simp [hza']
   have e2:decide (x∈b)=q:=by rw [Bool.eq_iff_iff,decide_eq_true_eq,mb];simp [hzb']
   rw [e1,e2,decide_eq_false hza',decide_eq_false hzb',h0];simp
  ·have e1:decide (x∈a)=decide (x∈a'):=decide_eq_decide.2 (by rw [ma];simp [hx]);have e2:decide (x∈b)=decide (x∈b'):=decide_eq_decide.2 (by rw [mb];simp [hx]);rw [e1,e2];simp [hx]
theorem Qba0 {kp:Bool→Bool→Bool} {keep:Bool→Bool→Option Bool} (hk:∀ p q,keep p q=some (kp p q)) (h0:kp false false=false) {l m:List Int} (hl:l.Pairwise (· < ·)) (hm:m.Pairwise (· < ·)) (hlm:l.length+m.length<big) :
  ∃ R,Qga l m keep=some R∧R.Pairwise (· < ·)∧∀ x,x∈R↔kp (decide (x∈l)) (decide (x∈m))=true:=by
 unfold Qga Qbf;obtain ⟨fuel,hfu,hge⟩ : ∃ f,Qbb=f∧1099511627776≤f:=⟨_,rfl,Nat.le_refl _⟩;rw [hfu];have hg:∀ (x:Int) (l:List Int),getO (x::l) 0=some x:=fun x l=>Qx (l:=x::l) (n:=0) (by simp);have hd:∀ (x:Int) (l:List Int),slcO (x::l) 1 ((x::l).length:Int)=some l:=fun x l=>by
  have:=Q5v (l:=x::l) (i:=1) (j:=(x::l).length) (by simp) (by simp);rw [List.take_length] at this;exact this
 have key:=Qfj (F:=fun (k14:List Int×List Int×List Int→Option (List Int)) ((a11,b12,out13):(List Int)×(List Int)×(List Int))=>(((if ((a11.length:Int)>0) then some true else some (decide ((b12.length:Int)>0)))).bind fun (x16:Bool)=>(if x16 then (((if ((a11.length:Int)>0) then (if ((b12.length:Int)==0) then some true else ((getO a11 0).bind fun x20=>((getO b12 0).bind fun x22=>some (decide (x20≤x22))))) else some false)).bind fun (inA24:Bool)=>(((if ((b12.length:Int)>0) then (if ((a11.length:Int)==0) then some true else ((getO b12 0).bind fun x27=>((getO a11 0).bind fun x29=>some (decide (x27≤x29))))) else some false)).bind fun (inB31:Bool)=>(((if inA24 then ((getO a11 0).bind fun x33=>((slcO a11 1 (a11.length:Int)).bind fun x35=>some (x35,x33))) else some (a11,0))).bind fun ((a37,x38):(List Int)×Int)=>(((if inB31 then ((getO b12 0).bind fun x40=>((slcO b12 1 (b12.length:Int)).bind fun x42=>some (x42,x40))) else some (b12,x38))).bind fun ((b44,x45):(List Int)×Int)=>((keep inA24 inB31).bind fun x47=>(if x47 then ((appO out13 [x45]).bind fun x49=>k14 (a37,b44,x49)) else k14 (a37,b44,out13))))))) else some out13)))
  (fun x:List Int×List Int×List Int=>Mrg kp l m x.1 x.2.1 x.2.2) (fun x=>x.1.length+x.2.1.length) (fun _ r=>∃ R,r=some R∧R.Pairwise (· < ·)∧∀ x,x∈R↔kp (decide (x∈l)) (decide (x∈m))=true) ?_ fuel (l,m,[]) ⟨hl,hm,by simp,by simp,by simp,by simpa using hlm,by simp⟩ (by unfold big at hlm;dsimp only;omega)
 ·obtain ⟨R,h1,h2,h3⟩:=key;exact ⟨R,by rw [h1];rfl,h2,h3⟩
 rintro k ⟨a,b,out⟩ h ih;dsimp only at h ih ⊢;have hln:=h.ln;have happ:∀ z:Int,out.length+1≤big→appO out [z]=some (out++[z]):=fun z hz=>Q3 (by simp only [List.length_cons,List.length_nil];unfold lim;unfold big at hz;omega);have fin:∀ (a' b' : List Int) (z:Int) (p q:Bool),out.length+1≤big→Mrg kp l m a' b' (if kp p q then out++[z] else out)→a'.length+b'.length<a.length+b.length →
   ∃ R,((keep p q).bind fun x47=>if x47 then ((appO out [z]).bind fun x49=>k (a',b',x49)) else k (a',b',out))=some R∧R.Pairwise (· < ·)∧∀ x,x∈R↔kp (decide (x∈l)) (decide (x∈m))=true:=by
  intro a' b' z p q hz hM hlt;rw [hk,happ z hz];simp only [Option.bind_some];have:=ih (a',b',if kp p q then out++[z] else out) hM hlt;cases hkp:kp p q<;>simp only [hkp,Bool.false_eq_true,if_false,if_true] at this ⊢ <;> exact this
 match a,b,h,fin,hln with
 | [],[],h,fin,hln =>
  refine ⟨out,by simp,h.so,fun x=>?_⟩;rw [← h.eq x];simp [h0]
 | [],y::ys,h,fin,hln =>
  rw [show ((([]:List Int).length:Nat):Int)=0 from rfl];have hp:(((y::ys).length:Nat):Int)>0:=by simp only [List.length_cons];omega
  rw [if_neg (by omega),Option.bind_some,if_pos (by simp)];rw [if_neg (by omega),Option.bind_some,if_pos hp,if_pos (by rfl),Option.bind_some,if_neg (by simp),Option.bind_some,if_pos rfl,hg,hd];simp only [Option.bind_some];exact fin [] ys y false true (by simp only [List.length_cons] at hln;omega) (h.step h0 (z:=y) (p:=false) (q:=true) rfl rfl (.inr rfl) (by simp) (List.pairwise_cons.1 h.sb).1) (by simp)
 | x::xs,[],h,fin,hln =>
  rw [show ((([]:List Int).length:Nat):Int)=0 from rfl];have hp:(((x::xs).length:Nat):Int)>0:=by simp only [List.length_cons];omega
  rw [if_pos hp,Option.bind_some,if_pos rfl,if_pos hp,if_pos (by rfl),Option.bind_some,if_neg (by omega),Option.bind_some,if_pos rfl,hg,hd];simp only [Option.bind_some,Bool.false_eq_true,if_false];exact fin xs [] x true false (by simp only [List.length_cons] at hln;omega) (h.step h0 (z:=x) (p:=true) (q:=false) rfl rfl (.inl rfl) (List.pairwise_cons.1 h.sa).1 (by simp)) (by simp)
 | x::xs,y::ys,h,fin,hln =>
  obtain ⟨ha1,ha2⟩:=List.pairwise_cons.1 h.sa;obtain ⟨hb1,hb2⟩:=List.pairwise_cons.1 h.sb;have hp:(((x::xs).length:Nat):Int)>0:=by simp only [List.length_cons];omega
  have hq:(((y::ys).length:Nat):Int)>0:=by simp only [List.length_cons];omega
  have hp0:((((x::xs).length:Nat):Int)==0)=false:=by simp only [beq_eq_false_iff_ne];omega
  have hq0:((((y::ys).length:Nat):Int)==0)=false:=by simp only [beq_eq_false_iff_ne];omega
  rw [if_pos hp,Option.bind_some,if_pos rfl,if_pos hp,if_neg (by rw [hq0];simp),hg,hg,Option.bind_some,Option.bind_some,Option.bind_some,if_pos hq,if_neg (by rw [hp0];simp),Option.bind_some,Option.bind_some,Option.bind_some,hd,hd];simp only [List.length_cons] at hln;rcases Int.lt_trichotomy x y with hxy|rfl|hxy
  ·have e1:decide (x≤y)=true:=decide_eq_true (by omega);have e2:decide (y≤x)=false:=decide_eq_false (by omega);simp only [e1,e2,Option.bind_some,if_true,Bool.false_eq_true,if_false];exact fin xs (y::ys) x true false (by omega) (h.step h0 (z:=x) (p:=true) (q:=false) rfl rfl (.inl rfl) ha1 (fun z hz=>by
    rcases List.mem_cons.1 hz with rfl|hz
    ·exact hxy
    ·have:=hb1 z hz;omega)) (by simp)
  ·have e1:decide (x≤x)=true:=decide_eq_true (by omega);simp only [e1,Option.bind_some,if_true];exact fin xs ys x true true (by omega) (h.step h0 (z:=x) (p:=true) (q:=true) rfl rfl (.inl rfl) ha1 hb1) (by simp;omega)
  ·have e1:decide (x≤y)=false:=decide_eq_false (by omega);have e2:decide (y≤x)=true:=decide_eq_true (by omega);simp only [e1,e2,Option.bind_some,if_true,Bool.false_eq_true,if_false];exact fin (x::xs) ys y false true (by omega) (h.step h0 (z:=y) (p:=false) (q:=true) rfl rfl (.inr rfl) (fun z hz=>by
    rcases List.mem_cons.1 hz with rfl|hz
    ·exact hxy
    ·have:=ha1 z hz;omega) hb1) (by simp)
end Go.Abs
end
section
namespace Go.Abs
open Go
theorem Qbg0 {l m:List Int} (hl:l.Pairwise (· < ·)) (hm:m.Pairwise (· < ·)) (hlm:l.length+m.length<big) :
  ∃ R,Qiv l m=some R∧R.Pairwise (· < ·)∧∀ x,x∈R↔x∈l∨x∈m:=by
 unfold Qiv Qe4;obtain ⟨R,h1,h2,h3⟩:=Qba0 (kp:=fun p q=>p||q) (keep:=Ql0) (fun p q=>by cases p<;>cases q<;>rfl) rfl hl hm hlm;exact ⟨R,by rw [h1];rfl,h2,fun x=>by rw [h3];simp⟩
theorem Q74 {l m:List Int} (hl:l.Pairwise (· < ·)) (hm:m.Pairwise (· < ·)) (hlm:l.length+m.length<big) :
  ∃ R,Qhr l m=some R∧R.Pairwise (· < ·)∧∀ x,x∈R↔x∈l∧x∈m:=by
 unfold Qhr Qdh;obtain ⟨R,h1,h2,h3⟩:=Qba0 (kp:=fun p q=>p&&q) (keep:=Qja) (fun p q=>by cases p<;>cases q<;>rfl) rfl hl hm hlm;exact ⟨R,by rw [h1];rfl,h2,fun x=>by rw [h3];simp⟩
end Go.Abs
end
section
namespace Go.Abs
open Go
theorem Qbb5:Qj2=some true:=by kernel_rfl
end Go.Abs
end
section
namespace Go.Abs
open Go
end Go.Abs
end
section
namespace Go.Abs
open Go
theorem Qcn {l:List Int} {v:Int} (hs:l.Pairwise (· < ·)) (hl:l.length<big):Qbw l v=some (decide (v∈l)):=by
 unfold Qbw Qe;obtain ⟨n,h⟩:=Qbez (v:=v) hs hl;rw [h];rfl
theorem Qm6 {l:List Int} {n:Int} (hl:l.length<big):Qfi l n=some (Qde n none l):=by
 unfold Qfi Q2;refine (Qkt (len:=l.length) (fun k=>some (Qde n (ahead l k) (l.drop k))) (by unfold Qbb;unfold big at hl;omega) ?_ ?_).trans (by simp [Qpe])
 ·intro k i hi ih;have hb:i<1000000000000:=by unfold big at hl;omega
  rw [Q0q hi]
  try dsimp only
  rw [if_pos (by omega),Qx hi,Qbq (by omega),ih];simp only [Option.bind_some];by_cases h1:l[i]<0
  ·simp [h1]
  ·by_cases h2:l[i]≥n
   ·simp [h1,h2]
   ·by_cases h0:0<i
    ·rw [Q2z h0 (by omega),Qx (by omega:i-1<l.length),Q20 l h0 (by omega)];by_cases h3:l[i]≤l[i-1]<;>simp [h1,h2,h3,h0]
    ·obtain rfl:i=0:=by omega
     simp [h1,h2,Qpe]
 ·intro k;simp [Qde]
theorem Qbg1 {l:List Int} {v:Int} (hl:l.length<big):Qij l v=some (decide (v∈l)):=by
 have hb:l.length<1000000000000:=hl;unfold Qij Qdv;obtain ⟨fuel,hfu,hge⟩ : ∃ f,Qbb=f∧1099511627776≤f:=⟨_,rfl,Nat.le_refl _⟩;rw [hfu];refine (Qbgy (fun x=>x) (fun y=>y==v) hl hge (fun k n hn=>?_) (fun k=>?_)).trans ?_
 ·try dsimp only
  rw [if_pos (by omega),Qx hn];rfl
 ·try dsimp only
  rw [if_neg (by omega)]
 ·congr 1;rw [Bool.eq_iff_iff,List.any_eq_true];simp
theorem Qbb6 {α:Type} {l:List α} {f:α→Option Bool} {p:α→Bool} (hf:∀ x∈l,f x=some (p x)) (hl:l.length<big) {fuel:Nat} (hge:1099511627776≤fuel) :
  ∃ i:Int,Qbi (fun (k:Int→Option Int) (x:Int)=>(if (x<(l.length:Int)) then ((getO l x).bind fun x6=>((f x6).bind fun x9=>(if x9 then some x else k (IntKind.wrap .i64 (x+1))))) else some (-1))) fuel 0=some i∧decide (i≥0)=l.any p:=by
 have hb:l.length<1000000000000:=hl;have:=Qfj (F:=fun (k:Int→Option Int) (x:Int)=>(if (x<(l.length:Int)) then ((getO l x).bind fun x6=>((f x6).bind fun x9=>(if x9 then some x else k (IntKind.wrap .i64 (x+1))))) else some (-1)))
  (fun x=>∃ n:Nat,x=n∧n≤l.length) (fun x=>l.length-x.toNat) (fun x r=>∀ n:Nat,x=n→∃ i:Int,r=some i∧decide (i≥0)=(l.drop n).any p) (by
   rintro k _ ⟨n,rfl,hn⟩ ih m hm;obtain rfl:n=m:=by omega
   by_cases hlt:n<l.length
   ·rw [if_pos (by omega),Qx hlt];simp only [Option.bind_some,hf _ (List.getElem_mem hlt)];rw [List.drop_eq_getElem_cons hlt,List.any_cons];cases hp:p l[n] with
    | true=>exact ⟨n,by simp,by simp⟩
    | false =>
     rw [Qbq (by omega)];obtain ⟨i,h1,h2⟩:=ih ((n+1:Nat):Int) ⟨n+1,rfl,hlt⟩ (by omega) (n+1) rfl;exact ⟨i,by simpa using h1,by rw [h2];simp⟩
   ·rw [if_neg (by omega)];exact ⟨-1,rfl,by rw [List.drop_of_length_le (by omega)];rfl⟩) fuel 0 ⟨0,rfl,Nat.zero_le _⟩ (by simp;omega) 0 rfl
 simpa using this
theorem Qvu {l:List Qc} {f:Qc→Option Bool} {p:Qc→Bool} (hf:∀ x∈l,f x=some (p x)) (hl:l.length<big):Qc8 l f=some (l.any p):=by
 unfold Qc8 Qo Qd2 Q6;obtain ⟨fuel,hfu,hge⟩ : ∃ f,Qbb=f∧1099511627776≤f:=⟨_,rfl,Nat.le_refl _⟩;rw [hfu];obtain ⟨i,h1,h2⟩:=Qbb6 hf hl hge;rw [h1,Option.bind_some,h2]
structure SetP (n:Int) (l:List Int):Prop where
 rg:∀ x∈l,0≤x∧x<n
 so:l.Pairwise (· < ·)
theorem Qky {n:Int} {l:List Int}:Qde n none l=0↔SetP n l :=
 ⟨fun h=>⟨(Qib.1 h).1,(Qib.1 h).2.1⟩,fun h=>Qib.2 ⟨h.rg,h.so,fun _ h=>by cases h⟩⟩
structure RightP (p:Qb):Prop where
 a:Right p.zB
 fo:SetP p.zB.zS p.zD
 un:SetP 32 p.zC
 fc:SetP 32 p.zF
 ti:0≤p.Tick∧p.Tick<32
 tu:p.Tick∉p.zC
 tf:p.Tick∉p.zF
def Qbia (p:Qb):Prop:=small p.zB∧p.zD.length<big∧p.zC.length<big∧p.zF.length<big
theorem SetP.small {n:Int} {l:List Int} (h:SetP n l) (hn:n≤4096):l.length≤4096:=by
 have:=Qh4 h.so h.rg;omega
theorem RightP.small {p:Qb} (h:RightP p):Qbia p:=by
 have h1:=h.fo.small h.a.st.2;have h2:=h.un.small (by omega);have h3:=h.fc.small (by omega);refine ⟨h.a.small.1,?_,?_,?_⟩<;>(unfold big;omega)
def Qba1 (p:Qb):Int :=
 if Qo7 p.zB≠0 then Qo7 p.zB else if Qde p.zB.zS none p.zD≠0 then Qde p.zB.zS none p.zD else
 if Qde 32 none p.zC≠0 then Qde 32 none p.zC else if Qde 32 none p.zF≠0 then Qde 32 none p.zF else
 if p.Tick<0∨p.Tick≥32 then 2 else if p.Tick∈p.zC∨p.Tick∈p.zF then 13 else 0
theorem Qbb7 {p:Qb}:Qba1 p=0↔RightP p:=by
 unfold Qba1;constructor
 ·intro h;by_cases h1:Qo7 p.zB=0
  ·by_cases h2:Qde p.zB.zS none p.zD=0
   ·by_cases h3:Qde 32 none p.zC=0
    ·by_cases h4:Qde 32 none p.zF=0
     ·by_cases h5:p.Tick<0∨p.Tick≥32
      ·rw [if_neg (by simp [h1]),if_neg (by simp [h2]),if_neg (by simp [h3]),if_neg (by simp [h4]),if_pos h5] at h;omega
      ·by_cases h6:p.Tick∈p.zC∨p.Tick∈p.zF
       ·rw [if_neg (by simp [h1]),if_neg (by simp [h2]),if_neg (by simp [h3]),if_neg (by simp [h4]),if_neg h5,if_pos h6] at h;omega
       ·exact ⟨Qvq.1 h1,Qky.1 h2,Qky.1 h3,Qky.1 h4,by omega,fun h=>h6 (.inl h),fun h=>h6 (.inr h)⟩
     ·rw [if_neg (by simp [h1]),if_neg (by simp [h2]),if_neg (by simp [h3]),if_pos h4] at h;exact absurd h h4
    ·rw [if_neg (by simp [h1]),if_neg (by simp [h2]),if_pos h3] at h;exact absurd h h3
   ·rw [if_neg (by simp [h1]),if_pos h2] at h;exact absurd h h2
  ·rw [if_pos h1] at h;exact absurd h h1
 ·intro h;have:=h.ti;rw [if_neg (by simp [Qvq.2 h.a]),if_neg (by simp [Qky.2 h.fo]),if_neg (by simp [Qky.2 h.un]),if_neg (by simp [Qky.2 h.fc]),if_neg (by omega),if_neg (fun hh=>hh.elim h.tu h.tf)]
theorem Q57 {p:Qb} (h:Qbia p):Qgz p=some (Qba1 p):=by
 obtain ⟨hs,hf,hu,hc⟩:=h;have nb:∀ x:Int,x=0→¬ ((x != 0)=true):=fun x h=>by simp [h]
 have pb:∀ x:Int,x≠0→((x != 0)=true):=fun x h=>by simpa using h
 have nn:∀ x:Int,x=0→¬ (x≠0):=fun x h=>by simp [h]
 unfold Qgz Qcq Qba1;rw [Q5y hs,Option.bind_some];by_cases h1:Qo7 p.zB=0
 ·rw [if_neg (nb _ h1),if_neg (nn _ h1),Qm6 hf,Option.bind_some];by_cases h2:Qde p.zB.zS none p.zD=0
  ·rw [if_neg (nb _ h2),if_neg (nn _ h2)];obtain ⟨n,hn⟩ : ∃ n,Qbb=n+3:=⟨1099511627773,rfl⟩;rw [hn];simp only [Qbi];have e0:getO [p.zC,p.zF] 0=some p.zC:=rfl;have e1:IntKind.wrap .i64 ((0:Int)+1)=1:=by decide
   have e2:getO [p.zC,p.zF] 1=some p.zF:=rfl;have e3:IntKind.wrap .i64 ((1:Int)+1)=2:=by decide
   simp only [e0,e1,e2,e3];rw [if_pos (show (0:Int)<2 by omega),Option.bind_some,Qm6 hu,Option.bind_some];by_cases h3:Qde 32 none p.zC=0
   ·rw [if_neg (nb _ h3),if_neg (nn _ h3),if_pos (show (1:Int)<2 by omega),Option.bind_some,Qm6 hc,Option.bind_some];by_cases h4:Qde 32 none p.zF=0
    ·rw [if_neg (nb _ h4),if_neg (nn _ h4),if_neg (show ¬ (2:Int)<2 by omega)];unfold Qdk Qp;by_cases h5:p.Tick<0
     ·rw [if_neg (show ¬ p.Tick≥0 by omega),if_pos (show p.Tick<0∨p.Tick≥32 from .inl h5)];rfl
     ·rw [if_pos (show p.Tick≥0 by omega),Option.bind_some];by_cases h6:p.Tick≥32
      ·rw [if_neg (show ¬ decide (p.Tick<32)=true by simpa using h6),if_pos (show p.Tick<0∨p.Tick≥32 from .inr h6)]
      ·rw [if_pos (show decide (p.Tick<32)=true by simpa using h6),if_neg (show ¬ (p.Tick<0∨p.Tick≥32) by omega),Qcn (Qky.1 h3).so hu,Qcn (Qky.1 h4).so hc];by_cases h7:p.Tick∈p.zC
       ·simp [h7]
       ·by_cases h8:p.Tick∈p.zF<;>simp [h7,h8]
    ·rw [if_pos (pb _ h4),if_pos h4]
   ·rw [if_pos (pb _ h3),if_pos h3]
  ·rw [if_pos (pb _ h2),if_pos h2]
 ·rw [if_pos (pb _ h1),if_pos h1]
def Qz9 (p:Qb):List (List Qc):=(upto p.zB.zS).map (outP p.zB)
def tsk (p:Qb) (L:List Bool):Qg:=⟨p,Qz9 p,L⟩
def Qxz (p:Qb) (L:List Bool) (s:Int):Bool:=(outP p.zB s).any fun y=>lf L y.To&&decide (y.Event∈p.zF)
def Qop (p:Qb) (L:List Bool) (s:Int):Bool:=(outP p.zB s).any fun y=>(y.Event==p.Tick) && !lf L y.To
def escP (p:Qb) (L:List Bool) (s:Int):Int×Int :=
 match (outP p.zB s).find? (fun y=>!lf L y.To&&decide (y.Event∈p.zC)) with
 | some y=>(2,y.Event)
 | none=>if Qop p L s && !Qxz p L s then (4,p.Tick) else (0,-1)
section
variable {p:Qb} (hp:RightP p) {L:List Bool} (hL:L.length=p.zB.zS.toNat) {s:Int} (hs:0≤s∧s<p.zB.zS)
include hp
theorem Qto:∀ y∈outP p.zB s,(0≤y.To∧y.To<p.zB.zS)∧y.From=s∧y∈p.zB.zQ:=fun y hy=>by
 have h1:=List.mem_filter.1 hy;have h2:=hp.a.ed0 y h1.1;exact ⟨⟨h2.2.2.1,h2.2.2.2.1⟩,by simpa using h1.2,h1.1⟩
theorem Qy6 (s:Int):(outP p.zB s).length<big:=Nat.lt_of_le_of_lt (List.length_filter_le _ _) hp.a.small.1.2.2
include hs
omit hp in
theorem Q0a:inO (Qz9 p).length s=some ()∧getO (Qz9 p) s=some (outP p.zB s):=by
 have hl:(Qz9 p).length=p.zB.zS.toNat:=by unfold Qz9;rw [List.length_map,Qbm]
 refine ⟨Qkf hs.1 (by omega),?_⟩;rw [Ql3 (d:=[]) hs.1 (by omega)];unfold Qz9;rw [Qog hs.1 hs.2]
omit hp hs in
include hL in
theorem Qhk {x:Int} (hx:0≤x∧x<p.zB.zS):inO L.length x=some ()∧getO L x=some (lf L x) :=
 ⟨Qkf hx.1 (by omega),Ql3 hx.1 (by omega)⟩
include hL
theorem Qbe1:Qer (tsk p L) s=some (Qxz p L s):=by
 unfold Qer Qbt tsk;simp only [Q0a hs,Option.bind_some];rw [Qvu (p:=fun y=>lf L y.To&&decide (y.Event∈p.zF)) (fun y hy=>?_) (Qy6 hp s)]
 ·rfl
 ·have h1:=Qhk hL (Qto hp y hy).1;unfold Qfw Qbk;simp only [h1,Option.bind_some];rw [Qcn hp.fc.so hp.small.2.2.2];cases lf L y.To<;>simp
theorem Qbe2:Qes (tsk p L) s=some (escP p L s):=by
 unfold Qes Qbu;obtain ⟨fuel,hfu,hge⟩ : ∃ f,Qbb=f∧1099511627776≤f:=⟨_,rfl,Nat.le_refl _⟩;rw [hfu];rw [show (tsk p L).from_=Qz9 p from rfl,show (tsk p L).left_=L from rfl,show (tsk p L).zT=p from rfl];simp only [Q0a hs,Option.bind_some];rw [Qbe1 hp hL hs];rw [Qvu (p:=fun y=>(y.Event==p.Tick) && !lf L y.To) (fun y hy=>by
  have h1:=Qhk hL (Qto hp y hy).1;unfold Qfv Qbj;rw [show (tsk p L).left_=L from rfl,show (tsk p L).zT=p from rfl];simp only [h1,Option.bind_some];cases hq:y.Event==p.Tick<;>simp) (Qy6 hp s)]
 refine (Qsm (fun x=>x) (fun y=>!lf L y.To&&decide (y.Event∈p.zC)) (fun y=>some (2,y.Event)) (some (if Qop p L s && !Qxz p L s then (4,p.Tick) else (0,-1))) (Qy6 hp s) hge (fun k n hn=>?_) (fun k=>?_)).trans ?_
 ·try dsimp only
  have h1:=Qhk hL (Qto hp _ (List.getElem_mem hn)).1;rw [if_pos (by omega),Qx hn];simp only [h1,Option.bind_some];rw [Qcn hp.un.so hp.small.2.2.1];cases lf L (outP p.zB s)[n].To<;>simp
 ·try dsimp only
  rw [if_neg (by omega)];show (((if Qop p L s then _ else _):Option Bool).bind _)=_;cases Qop p L s<;>cases Qxz p L s<;>rfl
 ·unfold escP;cases (outP p.zB s).find? _<;>rfl
end
end Go.Abs
end
section
namespace Go.Abs
open Go
theorem Q75 {κ β:Type} [BEq κ] [LawfulBEq κ] [DecidableEq κ] {v:β} {k k' : κ}:∀ {m:List (κ×β)},hasM (setM m k v) k'=(decide (k'=k)||hasM m k')
 | []=>by simp only [setM,hasM,List.any_cons,List.any_nil,Bool.or_false];rw [Bool.eq_iff_iff];simp
 | (q,w)::m=>by
  by_cases h1:k=q
  ·subst h1;simp only [setM,beq_self_eq_true,if_true,Qng];rw [Bool.eq_iff_iff];simp
  ·have h1' : (k==q)=false:=by simp [h1]
   simp only [setM,h1',Bool.false_eq_true,if_false,Qng,Q75 (m:=m)];cases (k'==q)<;>cases decide (k'=k)<;>simp
theorem Q76 {κ β:Type} [BEq κ] [LawfulBEq κ] [DecidableEq κ] {z v:β} {k k' : κ}:∀ {m:List (κ×β)},getM (setM m k v) k' z=if k'=k then v else getM m k' z
 | []=>by simp [setM,getM]
 | (q,w)::m=>by
  by_cases h1:k=q
  ·subst h1;by_cases h2:k'=k<;>simp [setM,getM,h2]
  ·have h1' : (k==q)=false:=by simp [h1]
   by_cases h2:k'=q
   ·subst h2;have h3:¬ k'=k:=fun e=>h1 e.symm;simp [setM,getM,h1',h3]
   ·have h2' : (k'==q)=false:=by simp [h2]
    simp [setM,getM,h1',h2',Q76 (m:=m)]
def edM (a:Qa):List ((Int×Int)×Int):=a.zQ.foldl (fun c x=>setM c (x.From,x.Event) x.To) []
theorem Q58:∀ {es:List Qc} {c:List ((Int×Int)×Int)} {s e:Int},es.Pairwise Qjb →
  hasM (es.foldl (fun c x=>setM c (x.From,x.Event) x.To) c) (s,e)=((es.find? fun x=>x.From==s&&x.Event==e).isSome||hasM c (s,e)) ∧
  getM (es.foldl (fun c x=>setM c (x.From,x.Event) x.To) c) (s,e) 0=match es.find? (fun x=>x.From==s&&x.Event==e) with|some x=>x.To|none=>getM c (s,e) 0
 | [],c,s,e,_=>by simp
 | x::es,c,s,e,h=>by
  obtain ⟨h1,h2⟩:=List.pairwise_cons.1 h;obtain ⟨i1,i2⟩:=Q58 (es:=es) (c:=setM c (x.From,x.Event) x.To) (s:=s) (e:=e) h2;rw [List.foldl_cons,i1,i2,Q75,Q76,List.find?_cons];by_cases hx:x.From=s∧x.Event=e
  ·obtain ⟨rfl,rfl⟩:=hx;have hn:es.find? (fun y=>y.From==x.From&&y.Event==x.Event)=none:=by
    rw [List.find?_eq_none];intro y hy hq;simp only [Bool.and_eq_true,beq_iff_eq] at hq;have:=h1 y hy;unfold Qjb at this;omega
   simp [hn]
  ·have hb:(x.From==s&&x.Event==e)=false:=by
    rw [Bool.and_eq_false_iff];by_cases h3:x.From=s
    ·exact .inr (beq_eq_false_iff_ne.2 fun h4=>hx ⟨h3,h4⟩)
    ·exact .inl (beq_eq_false_iff_ne.2 h3)
   have hne:¬ ((s,e)=(x.From,x.Event)):=fun h4=>hx ⟨by injection h4 with h5 h6;exact h5.symm,by injection h4 with h5 h6;exact h6.symm⟩;rw [hb,decide_eq_false hne,if_neg hne];simp
theorem Q9h {a:Qa} (h:Right a) (s e:Int):hasM (edM a) (s,e)=decide (0≤Qdl a s e):=by
 unfold edM Qdl;rw [(Q58 h.ed).1];cases hf:a.zQ.find? fun x=>x.From==s&&x.Event==e with
 | none=>simp [hasM]
 | some x =>
  have:=(h.ed0 x (List.mem_of_find?_eq_some hf)).2.2.1;simp [this]
theorem Qbe3 {a:Qa} (h:Right a) {s e:Int} (h0:0≤Qdl a s e):getM (edM a) (s,e) 0=Qdl a s e:=by
 unfold edM Qdl at *
 rw [(Q58 h.ed).2];cases hf:a.zQ.find? fun x=>x.From==s&&x.Event==e with
 | none=>rw [hf] at h0;simp at h0
 | some x=>rfl
def InT:List Qa→List Int→Prop
 | [],[]=>True
 | a::l,x::t=>(0≤x∧x<a.zS)∧InT l t
 | _,_=>False
theorem InT.len:∀ {l:List Qa} {t:List Int},InT l t→t.length=l.length
 | [],[],_=>rfl
 | a::l,x::t,h=>by simp [InT.len h.2]
 | [],_::_,h=>h.elim
 | _::_,[],h=>h.elim
theorem InT.get:∀ {l:List Qa} {t:List Int},InT l t→∀ (i:Nat) (hi:i<l.length) (hj:i<t.length),0≤t[i]∧t[i]<l[i].zS
 | a::l,x::t,h,0,_,_=>h.1
 | a::l,x::t,h,i+1,hi,hj=>InT.get h.2 i (by simpa using hi) (by simpa using hj)
 | [],_,_,i,hi,_=>by simp at hi
 | _::_,[],h,_,_,_=>h.elim
def allT:List Qa→List (List Int)
 | []=>[[]]
 | a::l=>(upto a.zS).flatMap fun x=>(allT l).map (x :: ·)
theorem Qba2:∀ {l:List Qa} {t:List Int},InT l t→t∈allT l
 | [],[],_=>by simp [allT]
 | a::l,x::t,h=>by
  simp only [allT,List.mem_flatMap,List.mem_map];exact ⟨x,Qim.2 h.1,t,Qba2 h.2,rfl⟩
 | [],_::_,h=>h.elim
 | _::_,[],h=>h.elim
theorem Qba3:∀ {l:List Qa},(allT l).length=l.foldr (fun a n=>a.zS.toNat*n) 1
 | []=>rfl
 | a::l=>by
  simp only [allT,List.length_flatMap,List.length_map,List.foldr_cons,← Qba3 (l:=l)];generalize (allT l).length=n;have:∀ u:List Int,(u.map fun _=>n).sum=u.length*n:=fun u=>by
   induction u with
   | nil=>simp
   | cons x u ih=>simp only [List.map_cons,List.sum_cons,ih,List.length_cons,Nat.add_mul];omega
  rw [this,Qbm]
theorem Qba4 {τ:Type} [DecidableEq τ]:∀ {l m:List τ},l.Nodup→(∀ x∈l,x∈m)→l.length≤m.length
 | [],_,_,_=>by simp
 | x::l,m,h,hs=>by
  obtain ⟨a1,a2⟩:=List.nodup_cons.1 h;have hx:=hs x (by simp);have:=Qba4 (l:=l) (m:=m.erase x) a2 fun y hy=>(List.mem_erase_of_ne (by rintro rfl;exact a1 hy)).2 (hs y (by simp [hy]));rw [List.length_erase_of_mem hx] at this;have:0<m.length:=List.length_pos_of_mem hx;simp only [List.length_cons];omega
def Q3e (a:Qa) (x e:Int):Option Int:=if e∈a.zO then (if 0≤Qdl a x e then some (Qdl a x e) else none) else some x
def Qo8:List Qa→List Int→Int→Option (List Int)
 | a::l,x::t,e=>match Q3e a x e with
  | some y=>(Qo8 l t e).map (y :: ·)
  | none=>none
 | _,_,_=>some []
def Q3f (e:Int):List Int→List (Qa×Int)→Option (List Int)
 | acc,[]=>some acc
 | acc,q::qs=>match Q3e q.1 q.2 e with
  | some y=>Q3f e (acc++[y]) qs
  | none=>none
theorem Qba5 {e:Int}:∀ {l:List Qa} {t acc:List Int},Q3f e acc (l.zip t)=(Qo8 l t e).map (acc ++ ·)
 | [],t,acc=>by simp [Q3f,Qo8]
 | a::l,[],acc=>by simp [Q3f,Qo8]
 | a::l,x::t,acc=>by
  rw [List.zip_cons_cons,Q3f,Qo8];cases Q3e a x e with
  | none=>rfl
  | some y =>
   dsimp only;rw [Qba5];cases Qo8 l t e<;>simp
theorem Q59:∀ {l:List Qa} {t:List Int} {e:Int} {r:List Int},(∀ a∈l,Right a)→InT l t→Qo8 l t e=some r→InT l r
 | [],[],e,r,_,_,h=>by simp [Qo8] at h;subst h;trivial
 | a::l,x::t,e,r,hr,hi,h=>by
  rw [Qo8] at h;cases h1:Q3e a x e with
  | none=>rw [h1] at h;cases h
  | some y =>
   rw [h1] at h;dsimp only at h;obtain ⟨r',h2,rfl⟩:=Option.map_eq_some_iff.1 h;refine ⟨?_,Q59 (fun b hb=>hr b (by simp [hb])) hi.2 h2⟩;unfold Q3e at h1;split at h1
   ·split at h1<;>cases h1;rename_i h3;have:=Qqa (hr a (by simp)) x e;omega
   ·cases h1;exact hi.1
 | [],_::_,_,_,_,h,_=>h.elim
 | _::_,[],_,_,_,h,_=>h.elim
def mkT (l:List Qa) (t:List Int):Bool:=(l.zip t).all fun q=>decide (q.2∈q.1.zP)
structure Parts (l:List Qa):Prop where
 r:∀ a∈l,Right a
 s:∀ a∈l,a.zS≤100
 n:l.length≤12
 b:(allT l).length≤4000
section
variable {l:List Qa} (h:Parts l)
include h
theorem Parts.big:l.length<Go.Abs.big:=by have:=h.n;unfold Go.Abs.big;omega
theorem Qqc:Qj3 l=some 0:=by
 unfold Qj3 Qcz;have hn:=h.n;rw [if_neg (by omega)];refine Qkt (len:=l.length) (fun _=>some 0) (by unfold Qbb;omega) (fun k n hn' hk=>?_) (fun k=>?_)
 ·rw [if_pos (by omega),Qx hn',Option.bind_some,Qxx (h.r _ (List.getElem_mem hn')),Option.bind_some,if_neg (by simp),Qbq (by omega)];exact hk
 ·rw [if_neg (by omega)]
structure EvsU (l:List Qa) (R:List Int):Prop where
 so:R.Pairwise (· < ·)
 me:∀ x,x∈R↔∃ a∈l,x∈a.zO
theorem EvsU.rg {R:List Int} (hR:EvsU l R):∀ x∈R,0≤x∧x<32:=fun x hx=>by
 obtain ⟨a,ha,hx⟩:=(hR.me x).1 hx;exact (h.r a ha).al0 x hx
theorem Qbjn:∃ R,Qgb l=some R∧EvsU l R:=by
 unfold Qgb Qe5;have hb:=h.n;obtain ⟨R,h1,h2⟩ : ∃ R,Qbi (fun k4 ((out2,x3):(List Int)×Int)=>(if (x3<(l.length:Int)) then ((getO l x3).bind fun x6=>((Qiv out2 x6.zO).bind fun x9=>k4 (x9,(IntKind.wrap .i64 (x3+1))))) else some out2)) Qbb ([],0)=some R∧EvsU l R:=by
  refine Qfj (fun x:List Int×Int=>∃ n:Nat,x.2=n∧n≤l.length∧EvsU (l.take n) x.1) (fun x=>l.length-x.2.toNat) (fun _ r=>∃ R,r=some R∧EvsU l R) ?_ Qbb ([],0) ⟨0,rfl,Nat.zero_le _,.nil,fun x=>by simp⟩ (by unfold Qbb;dsimp only;omega);rintro k ⟨out,x⟩ ⟨n,hx,hn,he⟩ ih;dsimp only at hx he ih ⊢;subst hx;by_cases hlt:n<l.length
  ·have ha:=h.r _ (List.getElem_mem hlt);have hl1:out.length≤32:=Q56 he.so fun x hx=>by
    obtain ⟨a,ha,hx⟩:=(he.me x).1 hx;exact (h.r a (List.mem_of_mem_take ha)).al0 x hx
   have hl2:=ha.small.2.1;obtain ⟨R,k1,k2,k3⟩:=Qbg0 he.so ha.al (by unfold Go.Abs.big;omega);rw [if_pos (by omega),Qx hlt,Option.bind_some,k1,Option.bind_some,Qbq (by omega)];refine ih (R,((n+1:Nat):Int)) ⟨n+1,rfl,hlt,k2,fun x=>?_⟩ (by dsimp only;omega);rw [k3,he.me];have htk:l.take (n+1)=l.take n++[l[n]]:=List.take_succ_eq_append_getElem hlt;rw [htk];constructor
   ·rintro (⟨a,ha,hx⟩|hx)
    ·exact ⟨a,List.mem_append_left _ ha,hx⟩
    ·exact ⟨l[n],List.mem_append_right _ (List.mem_singleton_self _),hx⟩
   ·rintro ⟨a,ha,hx⟩;rcases List.mem_append.1 ha with ha|ha
    ·exact .inl ⟨a,ha,hx⟩
    ·simp only [List.mem_singleton] at ha;subst ha;exact .inr hx
  ·rw [if_neg (by omega)];have:n=l.length:=by omega
   subst this;rw [List.take_length] at he;exact ⟨out,rfl,he⟩
 rw [h1];exact ⟨R,rfl,h2⟩
theorem Qba6 {R:List Int} (hR:Qgb l=some R):Qnc l=some ⟨l,R,l.map edM⟩:=by
 unfold Qnc Qgj;obtain ⟨fuel,hfu,hge⟩ : ∃ f,Qbb=f∧1099511627776≤f:=⟨_,rfl,Nat.le_refl _⟩;have hn:=h.n;rw [hfu,hR,Option.bind_some];refine Option.bind_eq_some_iff.2 ⟨([],[],[],l.map edM),?_,rfl⟩;refine (Qc6 (l:=l) (fun i (s:List (List ((Int×Int)×Int)))=>(i,([]:List Qa),([]:List Int),([]:List (List ((Int×Int)×Int))),s)) (fun s a=>s++[edM a]) (fun n s=>s.length≤n) (fun s=>some ([],[],[],s)) h.big hge (fun k n s hn' hs=>?_) (fun n s _ hs=>by simp only [List.length_append,List.length_cons,List.length_nil];omega) (fun k s hs=>?_) (s0:=[]) (by simp)).trans ?_
 ·dsimp only;rw [if_pos (by omega),Qx hn',Option.bind_some];have ha:=(h.r _ (List.getElem_mem hn')).small;rw [Qc6 (l:=l[n].zQ) (fun i (s:List ((Int×Int)×Int))=>(i,s)) (fun c x=>setM c (x.From,x.Event) x.To) (fun _ _=>True) (fun s=>some s) ha.1.2.2 hge (fun k m s hm _=>?_) (fun _ _ _ _=>trivial) (fun k s _=>?_) (s0:=[]) trivial]
  ·rw [Option.bind_some,Q3 (by simp only [List.length_cons,List.length_nil];unfold lim;omega),Option.bind_some,Option.bind_some]
   rfl
  ·dsimp only;rw [if_pos (by omega),Qx hm,Option.bind_some]
  ·dsimp only;rw [if_neg (by omega)]
 ·dsimp only;rw [if_neg (by omega)]
 ·have:∀ (m:List Qa) (s:List (List ((Int×Int)×Int))),m.foldl (fun s a=>s++[edM a]) s=s++m.map edM:=fun m=>by
   induction m with
   | nil=>intro s;simp
   | cons a m ih=>intro s;rw [List.foldl_cons,ih];simp
  rw [this,List.nil_append]
variable {R:List Int} (hR:EvsU l R)
theorem Q4p:Qfn ⟨l,R,l.map edM⟩=some (if l.any (fun a=>a.zS==0) then ([],false) else (List.replicate l.length 0,true)):=by
 unfold Qfn Qb8;obtain ⟨fuel,hfu,hge⟩ : ∃ f,Qbb=f∧1099511627776≤f:=⟨_,rfl,Nat.le_refl _⟩;have hn:=h.n;rw [hfu];dsimp only;have hmk:mkO ((l.length:Nat):Int) (0:Int)=some (List.replicate l.length 0):=by unfold mkO lim;rw [if_pos (by omega),Int.toNat_natCast]
 rw [Qsm (l:=l) (fun i=>i) (fun a=>a.zS==0) (fun _=>some ([],false)) (some (List.replicate l.length 0,true)) h.big hge (fun k n hn'=>?_) (fun k=>?_)]
 ·cases hf:l.find? fun a=>a.zS==0 with
  | none =>
   have:l.any (fun a=>a.zS==0)=false:=by
    rw [List.find?_eq_none] at hf;rw [List.any_eq_false];exact hf
   rw [this];rfl
  | some x =>
   have:l.any (fun a=>a.zS==0)=true:=List.any_eq_true.2 ⟨x,List.mem_of_find?_eq_some hf,List.find?_some (p:=fun a:Qa=>a.zS==0) hf⟩;rw [this];rfl
 ·rw [if_pos (by omega),Qx hn',Option.bind_some]
 ·rw [if_neg (by omega),hmk,Option.bind_some,Qof (by simp),Option.bind_some]
theorem Qbe4 {t:List Int} (ht:InT l t):Qf3 ⟨l,R,l.map edM⟩ t=some (mkT l t):=by
 unfold Qf3 Qcg;obtain ⟨fuel,hfu,hge⟩ : ∃ f,Qbb=f∧1099511627776≤f:=⟨_,rfl,Nat.le_refl _⟩;have hn:=h.n;have hl:=ht.len;rw [hfu];dsimp only;unfold mkT;refine Qkt (len:=l.length) (fun n=>some (((l.zip t).drop n).all fun q=>decide (q.2∈q.1.zP))) (by omega) (fun k n hn' hk=>?_) (fun k=>?_)
 ·have ha:=h.r _ (List.getElem_mem hn');rw [if_pos (by omega),Qx hn',Option.bind_some,Qx (show n<t.length by omega),Option.bind_some,Qcn ha.ma ha.small.1.2.1,Option.bind_some,Qbq (by omega),hk,List.drop_eq_getElem_cons (show n<(l.zip t).length by rw [List.length_zip];omega),List.all_cons,List.getElem_zip];by_cases hm:t[n]∈l[n].zP
  ·rw [decide_eq_true hm,if_pos rfl,Bool.true_and]
  ·rw [decide_eq_false hm,if_neg (by simp),Bool.false_and]
 ·rw [if_neg (by omega),List.drop_of_length_le (by rw [List.length_zip];omega)];rfl
theorem Qbg2 {t:List Int} (ht:InT l t) (hne:t≠[]) (e:Int):Qg2 ⟨l,R,l.map edM⟩ t e=some (match Qo8 l t e with|some r=>(r,true)|none=>([],false)):=by
 unfold Qg2 Qct;obtain ⟨fuel,hfu,hge⟩ : ∃ f,Qbb=f∧1099511627776≤f:=⟨_,rfl,Nat.le_refl _⟩;have hn:=h.n;have hl:=ht.len;have hc:Qcb t=some t:=by
  unfold Qcb Qv;cases t with
  | nil=>exact absurd rfl hne
  | cons x t=>first|rfl|(show (appO [] (x::t)).bind _=_;rw [Q3 (by simp only [List.length_nil];unfold lim;simp only [List.length_cons] at hl ⊢;omega)];simp)
 have hno:neO t=some ():=by
  cases t with
  | nil=>exact absurd rfl hne
  | cons x t=>rfl
 rw [hfu,hc,Option.bind_some,hno,Option.bind_some];dsimp only;have hS:Q3f e [] (l.zip t)=Qo8 l t e:=by rw [Qba5];cases Qo8 l t e<;>simp
 rw [← hS];refine Qv7 (fun x:Int×List Int=>∃ (n:Nat) (acc:List Int),x.1=n∧n≤l.length∧acc.length=n∧x.2=acc++t.drop n∧Q3f e acc ((l.zip t).drop n)=Q3f e [] (l.zip t)) (fun x=>l.length-x.1.toNat) _ ⟨0,[],rfl,Nat.zero_le _,rfl,by simp,by simp⟩ (by dsimp only;omega) ?_;rintro k ⟨x,nx⟩ ⟨n,acc,hx,hnl,hacc,hnx,hst⟩ ih;dsimp only at hx hnx hst ih ⊢;subst hx hnx;by_cases hlt:n<l.length
 ·have ha:=h.r _ (List.getElem_mem hlt);rw [if_pos (by omega)];unfold letJ;dsimp only;rw [Qx hlt,Option.bind_some,Qcn ha.al ha.small.1.1,Option.bind_some,Qbq (by omega)];rw [List.drop_eq_getElem_cons (show n<(l.zip t).length by rw [List.length_zip];omega),List.getElem_zip,Q3f] at hst;have htn:t.drop n=t[n]::t.drop (n+1):=List.drop_eq_getElem_cons (by omega);unfold Q3e at hst;dsimp only at hst;by_cases hm:e∈l[n].zO
  ·rw [if_pos hm] at hst;rw [decide_eq_true hm,if_pos rfl,Qx (show n<(l.map edM).length by simpa using hlt),Option.bind_some,Qx (show n<t.length by omega),Option.bind_some,List.getElem_map,Q9h ha];by_cases h0:0≤Qdl l[n] t[n] e
   ·rw [if_pos h0] at hst;dsimp only at hst;rw [decide_eq_true h0,if_pos rfl,Qkf (by omega) (by omega),Option.bind_some,Qbe3 ha h0,Qkm (by omega) (by simp only [List.length_append,List.length_drop];omega),Option.bind_some];refine ih _ ⟨n+1,acc++[Qdl l[n] t[n] e],rfl,hlt,by simp [hacc],?_,hst⟩ (by dsimp only;omega);dsimp only;rw [htn,Int.toNat_natCast,List.set_append_right _ _ (by omega),hacc,Nat.sub_self,List.set_cons_zero,List.append_assoc];rfl
   ·rw [if_neg h0] at hst;dsimp only at hst;rw [decide_eq_false h0,if_neg (by simp),← hst]
  ·rw [if_neg hm] at hst;dsimp only at hst;rw [decide_eq_false hm,if_neg (by simp)];refine ih _ ⟨n+1,acc++[t[n]],rfl,hlt,by simp [hacc],?_,hst⟩ (by dsimp only;omega);dsimp only;rw [htn,List.append_assoc]
   first|done|rfl
 ·rw [if_neg (by omega)];have hnn:n=l.length:=by omega
  rw [List.drop_of_length_le (by rw [List.length_zip];omega),Q3f] at hst;rw [← hst,List.drop_of_length_le (by omega),List.append_nil,Qof (by omega),Option.bind_some]
include hR in
theorem Parts.dom:DomT (Qo8 l) R (InT l) 4000 where
 ky:=fun t ht x hx=>by
  obtain ⟨i,hi,rfl⟩:=List.getElem_of_mem hx;have:=ht.get i (by rw [← ht.len];exact hi) hi;have:=h.s _ (List.getElem_mem (show i<l.length by rw [← ht.len];exact hi));omega
 cl:=fun t ht e _ r hr=>Q59 h.r ht hr
 bd:=fun m hm hs=>Nat.le_trans (Qba4 hm fun x hx=>Qba2 (hs x hx)) h.b
 nn:=Nat.le_refl _
 so:=hR.so
 rg:=hR.rg h
end
end Go.Abs
end
section
namespace Go.Abs
open Go
theorem Q9i {l:List Qa} (h:Parts l) {t:List Int} (ht:InT l t):keyI t=some (keyB t)∧Q55 t:=by
 have hk:Q55 t:=fun x hx=>by
  obtain ⟨i,hi,rfl⟩:=List.getElem_of_mem hx;have:=ht.get i (by rw [← ht.len];exact hi) hi;have:=h.s _ (List.getElem_mem (show i<l.length by rw [← ht.len];exact hi));omega
 have hn:=h.n;have hl:=ht.len;refine ⟨?_,hk⟩;unfold keyI;rw [if_pos ⟨by unfold lim;omega,hk⟩]
theorem InT.zero:∀ {l:List Qa},(∀ a∈l,Right a)→l.any (fun a=>a.zS==0)=false→InT l (List.replicate l.length 0)
 | [],_,_=>trivial
 | a::l,hr,h=>by
  simp only [List.any_cons,Bool.or_eq_false_iff,beq_eq_false_iff_ne] at h;have:=(hr a (by simp)).st;exact ⟨⟨Int.le_refl _,by omega⟩,InT.zero (fun b hb=>hr b (by simp [hb])) h.2⟩
def bld0 (l:List Qa) (R:List Int):List (List Int)×List Int×List Qc :=
 bldM (Qo8 l) (mkT l) R 4001 0 [] ([List.replicate l.length 0],[],setM ([]:List (ByteArray×Int)) (keyB (List.replicate l.length 0)) 0)
section
variable {l:List Qa} (h:Parts l) {R:List Int} (hR:EvsU l R)
include h
theorem Q77 (h0:l.any (fun a=>a.zS==0)=false):FndT R (InT l) 0 ([List.replicate l.length 0],[],setM ([]:List (ByteArray×Int)) (keyB (List.replicate l.length 0)) 0):=by
 have hz:=InT.zero h.r h0;refine ⟨by simp,fun x hx=>?_,?_,.nil,fun x hx=>by simp at hx⟩
 ·simp only [List.mem_singleton] at hx;subst hx;exact hz
 ·have h1:MapK ([]:List (ByteArray×Int)) []:=fun r _=>⟨by simp [hasM],fun h=>by simp at h⟩;exact h1.ins (by simp) (Q9i h hz).2
include hR
theorem Qbb8 (h0:l.any (fun a=>a.zS==0)=false):Right ⟨R,((bld0 l R).1.length:Int),(bld0 l R).2.1,(bld0 l R).2.2⟩∧(∀ x∈(bld0 l R).1,InT l x)∧(bld0 l R).1.length≤4000∧[List.replicate l.length 0] <+: (bld0 l R).1 :=
 Q4o (h.dom hR) (mkT l) (Q77 h h0) ⟨fun x hx=>by simp at hx,.nil⟩ (by simp) (by omega)
theorem Qbe5 (hne:l≠[]) (h0:l.any (fun a=>a.zS==0)=false) (hE:Qgb l=some R):Qc5 l=some (⟨R,((bld0 l R).1.length:Int),(bld0 l R).2.1,(bld0 l R).2.2⟩,(bld0 l R).1,0):=by
 unfold Qc5 Qcm;obtain ⟨fuel,hfu,hge⟩ : ∃ f,Qbb=f∧1099511627776≤f:=⟨_,rfl,Nat.le_refl _⟩;have hz:=InT.zero h.r h0;have hd:=h.dom hR;have hRl:=Q56 hR.so (hR.rg h);rw [hfu,Qqc h,Option.bind_some,if_neg (by simp),Qba6 h hE,Option.bind_some,Q4p h,h0,if_neg (by simp),Option.bind_some];dsimp only;rw [if_pos rfl,(Q9i h hz).1,Option.bind_some];have hlen:=hz.len;refine Qv7 (fun x:List (List Int)×Int×List Int×List Qc×List (ByteArray×Int)=>∃ i:Nat,x.2.1=i∧i≤x.1.length∧FndT R (InT l) i (x.1,x.2.2.2.1,x.2.2.2.2)∧x.2.2.1.length≤i∧x.2.2.2.1.length≤32*i ∧
  bldM (Qo8 l) (mkT l) R (4001-i) i x.2.2.1 (x.1,x.2.2.2.1,x.2.2.2.2)=bld0 l R) (fun x=>4001-x.2.1.toNat) _ ⟨0,rfl,by simp,Q77 h h0,by simp,by simp,rfl⟩ (by dsimp only;omega) ?_
 rintro k ⟨st,x,ms,es,c⟩ ⟨i,hx,hi,hf,hms,hes,hB⟩ ih;dsimp only at hx hi hf hms hes hB ih ⊢;subst hx;have hN:st.length≤4000:=hf.len hd;by_cases hlt:i<st.length
 ·have hs:InT l st[i]:=hf.su _ (List.getElem_mem hlt);have hg:st[i]? = some st[i]:=List.getElem?_eq_getElem hlt;generalize hsd:st[i]=s at hs hg;rw [if_pos (by omega),Qx hlt,Option.bind_some,hsd,Qbe4 h hs,Option.bind_some];obtain ⟨f,hfi⟩ : ∃ f,4001-i=f+1:=⟨4000-i,by omega⟩;rw [hfi,bldM] at hB;dsimp only at hB;rw [hg] at hB;dsimp only at hB;have hm2:(if mkT l s=true then (appO ms [(i:Int)]).bind fun x25=>some x25 else some ms)=some (if mkT l s then ms++[(i:Int)] else ms):=by
   cases mkT l s with
   | true=>rw [if_pos rfl,if_pos rfl,Q3 (by simp only [List.length_cons,List.length_nil];unfold lim;omega),Option.bind_some]
   | false=>rfl
  rw [hm2,Option.bind_some];obtain ⟨r1,r2,r3⟩:=hf.row hd (i:=i) hs;have hml:(if mkT l s=true then ms++[(i:Int)] else ms).length≤i+1:=by
   split
   ·simp only [List.length_append,List.length_cons,List.length_nil];omega
   ·omega
  generalize (if mkT l s=true then ms++[(i:Int)] else ms)=ms' at hB hml;have hsne:s≠[]:=by
   intro e;have:=hs.len;rw [e] at this;exact hne (List.eq_nil_of_length_eq_zero this.symm)
  have hRw:∀ (n:Nat) (p:TS),n≤R.length→RowT R (InT l) i (R.take n) (st,es,c) p→p.1.length≤4000:=fun n p _ hp=>Nat.le_trans (hd.bd _ hp.nd hp.su) (Nat.le_refl _);refine (Qc6 (l:=R) (fun j (p:TS)=>(p.1,j,p.2.1,p.2.2)) (rowM (Qo8 l) i s) (fun n p=>n≤R.length∧RowT R (InT l) i (R.take n) (st,es,c) p) (fun p=>k (p.1,(IntKind.wrap .i64 ((i:Int)+1)),ms',p.2.1,p.2.2)) (by unfold big;omega) hge (fun k2 n p hn hp=>?_) (fun n p hn hp=>?_) (fun k2 p hp=>?_) (s0:=(st,es,c)) ⟨Nat.zero_le _,hf.nd,hf.su,hf.mp,List.prefix_refl _,hf.ed,fun x hx=>by
   obtain ⟨a1,a2,a3,a4,a5⟩:=hf.er x hx;exact ⟨a1,by omega,a3,a4,a5,fun hq=>by omega⟩,by simp⟩).trans ?_
  ·obtain ⟨hp0,hp⟩:=hp;have hpl:=hRw n p hp0 hp;have hpe:=hp.ln;have htl:(R.take n).length≤32:=by rw [List.length_take];omega
   dsimp only at hpe;dsimp only;rw [if_pos (by omega)];unfold letJ;dsimp only;have hgs:getO p.1 (i:Int)=some s:=by
    have:=Qv8 hp.pre hg;rw [Qx (List.getElem?_eq_some_iff.1 this).1];exact (List.getElem?_eq_getElem _).symm.trans this
   rw [Qx hn,Option.bind_some,hgs,Option.bind_some,Qbg2 h hs hsne,Option.bind_some];unfold rowM;cases hst:Qo8 l s R[n] with
   | none=>rfl
   | some t =>
    have ht:=Q59 h.r hs hst;obtain ⟨hk1,hk2⟩:=Q9i h ht;obtain ⟨hm1,hm2⟩:=hp.mp t hk2;dsimp only;rw [if_pos rfl,hk1,Option.bind_some,hm1];by_cases hmem:t∈p.1
    ·rw [decide_eq_true hmem,if_pos rfl,if_pos hmem,hm2 hmem,Q3 (by simp only [List.length_cons,List.length_nil];unfold lim;omega),Option.bind_some]
    ·rw [decide_eq_false hmem,if_neg (by simp),if_neg hmem,if_neg (by simp only [beq_iff_eq];omega),Option.bind_some,Q3 (by simp only [List.length_cons,List.length_nil];unfold lim;omega),Option.bind_some,Q3 (by simp only [List.length_cons,List.length_nil];unfold lim;omega),Option.bind_some]
  ·obtain ⟨hp0,hp⟩:=hp;refine ⟨hn,?_⟩;have htk:R.take (n+1)=R.take n++[R[n]]:=List.take_succ_eq_append_getElem hn;rw [htk];refine hp.step hd hs (List.getElem_mem hn) fun x hx=>?_;have hso:=hR.so;obtain ⟨j,hj,rfl⟩:=List.getElem_of_mem hx;rw [List.length_take] at hj;rw [List.getElem_take];exact List.pairwise_iff_getElem.1 hso j n (by omega) hn (by omega)
  ·dsimp only;rw [if_neg (by omega)]
  ·rw [Qbq (by omega)];have hle:=r2.length_le;dsimp only at hle r3;refine ih _ ⟨i+1,rfl,by dsimp only;omega,r1,hml,?_,?_⟩ (by dsimp only;omega)
   ·dsimp only;omega
   ·dsimp only;rw [show 4001-(i+1)=f from by omega];exact hB
 ·rw [if_neg (by omega)];have hg:st[i]? = none:=List.getElem?_eq_none (by omega);obtain ⟨f,hfi⟩ : ∃ f,4001-i=f+1:=⟨4000-i,by omega⟩;rw [hfi,bldM] at hB;dsimp only at hB;rw [hg] at hB;dsimp only at hB;rw [← hB]
omit hR in
theorem Qbe6 (h0:l.any (fun a=>a.zS==0)=true) (hE:Qgb l=some R):Qc5 l=some (⟨R,0,[],[]⟩,[],0):=by
 unfold Qc5 Qcm;rw [Qqc h,Option.bind_some,if_neg (by simp),Qba6 h hE,Option.bind_some,Q4p h,h0,if_pos rfl,Option.bind_some]
 rfl
end
structure Prd (l:List Qa) (A:Qa) (T:List (List Int)):Prop where
 r:Right A
 st:A.zS=T.length
 t:∀ x∈T,InT l x
 n:T.length≤4000
 ev:EvsU l A.zO
end Go.Abs
end
section
namespace Go.Abs
open Go
def rowT (stp:List Int→Int→Option (List Int)) (al:List Int) (s:List Int):List (Int×List Int):=al.filterMap fun e=>(stp s e).map fun t=>(e,t)
theorem Q6a {stp:List Int→Int→Option (List Int)} {al:List Int} {s:List Int} {y:Int×List Int}:y∈rowT stp al s↔y.1∈al∧stp s y.1=some y.2:=by
 unfold rowT;rw [List.mem_filterMap];constructor
 ·rintro ⟨e,he,h⟩;obtain ⟨t,h1,rfl⟩:=Option.map_eq_some_iff.1 h;exact ⟨he,h1⟩
 ·rintro ⟨h1,h2⟩;exact ⟨y.1,h1,by rw [h2];rfl⟩
theorem Qbe7 {stp:List Int→Int→Option (List Int)} {al:List Int} (h:al.Pairwise (· < ·)) (s:List Int):(rowT stp al s).Pairwise fun a b=>a.1<b.1:=by
 unfold rowT;refine List.pairwise_filterMap.2 (h.imp fun {a b} hab x hx y hy=>?_);obtain ⟨t,_,rfl⟩:=Option.map_eq_some_iff.1 hx;obtain ⟨t',_,rfl⟩:=Option.map_eq_some_iff.1 hy;exact hab
theorem Q78 {stp:List Int→Int→Option (List Int)} {i:Nat} {s:List Int}:∀ (al:List Int) (p:TS),(rowT stp al s).foldl (stG i) (p.1,p.2.1)=((al.foldl (rowM stp i s) p).1,(al.foldl (rowM stp i s) p).2.1)
 | [],p=>rfl
 | e::al,p=>by
  rw [List.foldl_cons,← Q78 al];unfold rowT;rw [List.filterMap_cons];unfold rowM;cases h:stp s e with
  | none=>rfl
  | some t =>
   simp only [Option.map_some,List.foldl_cons];congr 1;unfold stG insG;by_cases hm:t∈p.1
   ·simp [hm]
   ·simp [hm,List.idxOf_append]
theorem Qbe8 {stp:List Int→Int→Option (List Int)} {mk:List Int→Bool} {al:List Int}:∀ (f i:Nat) (ms:List Int) (p:TS),bldM stp mk al f i ms p=bsG (rowT stp al) mk f i p.1 ms p.2.1
 | 0,_,_,_=>rfl
 | f+1,i,ms,p=>by
  rw [bldM,bsG];cases p.1[i]? with
  | none=>rfl
  | some s =>
   dsimp only;rw [Qbe8 f,Q78 al p]
theorem Qbe9 {l:List Qa} (h:Parts l) (hne:l≠[]):∃ A T,Qc5 l=some (A,T,0)∧Prd l A T∧InG (rowT (Qo8 l) A.zO) (mkT l) T.length T A.zP A.zQ∧(T=[]∨T[0]? = some (List.replicate l.length 0)):=by
 obtain ⟨R,hE,hR⟩:=Qbjn h;cases h0:l.any fun a=>a.zS==0 with
 | true=>exact ⟨_,_,Qbe6 h h0 hE,{ r:={ al0:=hR.rg h,al:=hR.so,st:=⟨Int.le_refl 0,by show (0:Int)≤4096;decide⟩,ma0:=fun x hx=>by simp at hx,ma:=List.Pairwise.nil,ed0:=fun x hx=>by simp at hx,ed:=List.Pairwise.nil },st:=rfl,t:=fun x hx=>by simp at hx,n:=by simp,ev:=hR },.nil,.inl rfl⟩
 | false =>
  obtain ⟨k1,k2,k3,k4⟩:=Qbb8 h hR h0;have hd:=h.dom hR;have hz:=InT.zero h.r h0;have hg:=Qbeu (row:=rowT (Qo8 l) R) (mk:=mkT l) (P:=InT l) (N:=4000) (fun s _=>Qbe7 hd.so s) (fun s hs y hy=>hd.cl s hs y.1 (Q6a.1 hy).1 y.2 (Q6a.1 hy).2) hd.bd
   (f:=4001) (i:=0) (InG.one (List.replicate l.length 0)) (fun x hx=>by rw [List.mem_singleton.1 hx];exact hz) (by simp) (by omega)
  have e:bld0 l R=bsG (rowT (Qo8 l) R) (mkT l) 4001 0 [List.replicate l.length 0] [] []:=Qbe8 _ _ _ _;refine ⟨_,_,Qbe5 h hR hne h0 hE,⟨k1,rfl,k2,k3,hR⟩,?_,.inr (Qy4 k4 rfl)⟩;rw [e];exact hg.1
end Go.Abs
end
section
namespace Go.Abs
open Go
structure Qbjo (p:Qb) (R:List Int):Prop where
 ln:R.length=p.zB.zS.toNat
 nn:∀ x:Int,0≤x→x<p.zB.zS→0≤ati R x
section
variable {p:Qb} (hp:RightP p) {R:List Int} (hR:Qbjo p R) {s:Int} (T:List Qd) (r:Int)
include hp hR
end
end Go.Abs
end
section
namespace Go.Abs
open Go
def Qbfa (p:Qb) (L:List Bool):List Int:=(upto p.zB.zS).map fun i=>if lf L i&&decide (i∈p.zB.zP) then 0 else -1
def Qy7 (L:List Bool) (d:Int) (out:List Int) (x:Qc):Bool:=lf L x.From&&(lf L x.To&&(decide (ati out x.From<0)&&(ati out x.To==d)))
def Qo9 (L:List Bool) (d:Int) (out:List Int) (x:Qc):List Int:=if Qy7 L d out x then out.set x.From.toNat (d+1) else out
def dN (p:Qb) (L:List Bool):Nat→List Int
 | 0=>Qbfa p L
 | k+1=>p.zB.zQ.foldl (Qo9 L (k:Int)) (dN p L k)
def Qqd (p:Qb) (L:List Bool):List Int:=dN p L p.zB.zS.toNat
structure Grow (p:Qb) (L:List Bool) (d:Int) (out out' : List Int):Prop where
 ln:out'.length=out.length
 vl:∀ y,0≤y→y<p.zB.zS→ati out' y=ati out y∨(ati out y<0∧ati out' y=d+1∧lf L y=true∧∃ e∈p.zB.zQ,e.From=y∧lf L e.To=true∧ati out e.To=d)
section
variable {p:Qb} (hp:RightP p) {L:List Bool} {d:Int} (hd:0≤d)
theorem Grow.refl (out:List Int):Grow p L d out out:=⟨rfl,fun _ _ _=>.inl rfl⟩
include hp hd
theorem Grow.trans {a b c:List Int} (h:Grow p L d a b) (k:Grow p L d b c):Grow p L d a c:=by
 refine ⟨k.ln.trans h.ln,fun y h0 h1=>?_⟩;rcases k.vl y h0 h1 with e|⟨k1,k2,k3,e,he,k4,k5,k6⟩
 ·rw [e];exact h.vl y h0 h1
 ·rcases h.vl y h0 h1 with e1|⟨_,e1,_⟩
  ·refine .inr ⟨by omega,k2,k3,e,he,k4,k5,?_⟩;have hr:=hp.a.ed0 e he;rcases h.vl e.To hr.2.2.1 hr.2.2.2.1 with e2|⟨_,e2,_⟩<;>omega
  ·omega
theorem Q0b {out:List Int} (hl:out.length=p.zB.zS.toNat) {x:Qc} (hx:x∈p.zB.zQ):Grow p L d out (Qo9 L d out x):=by
 unfold Qo9;cases hc:Qy7 L d out x with
 | false=>exact Grow.refl out
 | true =>
  have hr:=hp.a.ed0 x hx;unfold Qy7 at hc;simp only [Bool.and_eq_true,decide_eq_true_eq,beq_iff_eq] at hc;refine ⟨by simp,fun y h0 h1=>?_⟩;simp only [if_true];rw [Qz8 ⟨hr.1,by omega⟩ h0];by_cases hy:y=x.From
  ·subst hy;rw [if_pos rfl];exact .inr ⟨hc.2.2.1,rfl,hc.1,x,hx,rfl,hc.2.1,hc.2.2.2⟩
  ·rw [if_neg hy];exact .inl rfl
theorem Qy8:∀ {l:List Qc} {out:List Int},(∀ x∈l,x∈p.zB.zQ)→out.length=p.zB.zS.toNat→Grow p L d out (l.foldl (Qo9 L d) out)
 | [],out,_,_=>Grow.refl out
 | x::l,out,hm,hl=>by
  have h1:=Q0b (L:=L) hp hd hl (hm x (by simp));exact h1.trans hp hd (Qy8 (l:=l) (fun y hy=>hm y (by simp [hy])) (by rw [h1.ln,hl]))
theorem Qba7:∀ {l:List Qc} {out:List Int},(∀ x∈l,x∈p.zB.zQ)→out.length=p.zB.zS.toNat→∀ e∈l,lf L e.From=true→lf L e.To=true→ati (l.foldl (Qo9 L d) out) e.To=d→0≤ati (l.foldl (Qo9 L d) out) e.From
 | [],_,_,_,_,he,_,_,_=>by cases he
 | x::l,out,hm,hl,e,he,h1,h2,h3=>by
  have g1:=Q0b (L:=L) hp hd hl (hm x (by simp));have hl1:(Qo9 L d out x).length=p.zB.zS.toNat:=by rw [g1.ln,hl]
  have g2:=Qy8 (L:=L) hp hd (l:=l) (fun y hy=>hm y (by simp [hy])) hl1;rw [List.foldl_cons] at h3 ⊢;rcases List.mem_cons.1 he with rfl|he
  ·have hr:=hp.a.ed0 e (hm e (by simp));have k1:ati out e.To=d:=by
    rcases g2.vl e.To hr.2.2.1 hr.2.2.2.1 with q|⟨_,q,_⟩<;>rcases g1.vl e.To hr.2.2.1 hr.2.2.2.1 with q'|⟨_,q',_⟩<;>omega
   have k2:0≤ati (Qo9 L d out e) e.From:=by
    by_cases hn:ati out e.From<0
    ·have hc:Qy7 L d out e=true:=by unfold Qy7;simp [h1,h2,hn,k1]
     unfold Qo9;rw [hc,if_pos rfl,Qz8 ⟨hr.1,by omega⟩ hr.1,if_pos rfl];omega
    ·rcases g1.vl e.From hr.1 hr.2.1 with q|⟨q,_⟩<;>omega
   rcases g2.vl e.From hr.1 hr.2.1 with q|⟨q,_⟩<;>omega
  ·exact Qba7 (fun y hy=>hm y (by simp [hy])) hl1 e he h1 h2 h3
end
structure DI (p:Qb) (L:List Bool) (k:Int) (out:List Int):Prop where
 ln:out.length=p.zB.zS.toNat
 rg:∀ y,0≤y→y<p.zB.zS→ati out y = -1∨0≤ati out y∧ati out y≤k
 lv:∀ y,0≤y→y<p.zB.zS→0≤ati out y→lf L y=true
 z:∀ y,0≤y→y<p.zB.zS→(ati out y=0↔lf L y=true∧y∈p.zB.zP)
 ps:∀ y,0≤y→y<p.zB.zS→0<ati out y→∃ e∈p.zB.zQ,e.From=y∧lf L e.To=true∧ati out e.To=ati out y-1
 cl:∀ e∈p.zB.zQ,lf L e.From=true→0≤ati out e.To→ati out e.To<k→0≤ati out e.From
section
variable {p:Qb} (hp:RightP p) (L:List Bool)
theorem Qbg3 {y:Int} (h0:0≤y) (h1:y<p.zB.zS):ati (Qbfa p L) y=if lf L y&&decide (y∈p.zB.zP) then 0 else -1:=Qog h0 h1
include hp
theorem Qbfb:∀ k:Nat,DI p L (k:Int) (dN p L k)
 | 0=>by
  refine ⟨by simp [dN,Qbfa,Qbm],fun y h0 h1=>?_,fun y h0 h1 h2=>?_,fun y h0 h1=>?_,fun y h0 h1 h2=>?_,fun e he h2 h3 h4=>by omega⟩
  all_goals simp only [dN] at *
  all_goals rw [Qbg3 L h0 h1] at *
  all_goals cases hl:lf L y<;>by_cases hm:y∈p.zB.zP<;>simp_all
 | k+1=>by
  have ih:=Qbfb k;have hd:(0:Int)≤(k:Int):=by omega
  have g:=Qy8 (L:=L) hp hd (l:=p.zB.zQ) (out:=dN p L k) (fun _ h=>h) ih.ln;have c:=Qba7 (L:=L) hp hd (l:=p.zB.zQ) (out:=dN p L k) (fun _ h=>h) ih.ln;change Grow p L (k:Int) (dN p L k) (dN p L (k+1)) at g;have c:∀ e∈p.zB.zQ,lf L e.From=true→lf L e.To=true→ati (dN p L (k+1)) e.To=k→0≤ati (dN p L (k+1)) e.From:=c;refine ⟨by rw [g.ln,ih.ln],fun y h0 h1=>?_,fun y h0 h1 h2=>?_,fun y h0 h1=>?_,fun y h0 h1 h2=>?_,fun e he h2 h3 h4=>?_⟩
  ·rcases g.vl y h0 h1 with q|⟨_,q,_⟩
   ·rw [q];rcases ih.rg y h0 h1 with r|r
    ·exact .inl r
    ·exact .inr ⟨r.1,by omega⟩
   ·exact .inr ⟨by omega,by omega⟩
  ·rcases g.vl y h0 h1 with q|⟨_,_,q,_⟩
   ·exact ih.lv y h0 h1 (by omega)
   ·exact q
  ·rw [← ih.z y h0 h1];rcases g.vl y h0 h1 with q|⟨_,q,_⟩<;>omega
  ·rcases g.vl y h0 h1 with q|⟨_,q,_,e,he,q1,q2,q3⟩
   ·obtain ⟨e,he,q1,q2,q3⟩:=ih.ps y h0 h1 (by omega);have hr:=hp.a.ed0 e he;refine ⟨e,he,q1,q2,?_⟩;rcases g.vl e.To hr.2.2.1 hr.2.2.2.1 with r|⟨r,_⟩<;>omega
   ·have hr:=hp.a.ed0 e he;refine ⟨e,he,q1,q2,?_⟩;rcases g.vl e.To hr.2.2.1 hr.2.2.2.1 with r|⟨r,_⟩<;>omega
  ·have hr:=hp.a.ed0 e he;by_cases hk:ati (dN p L (k+1)) e.To=k
   ·refine c e he h2 ?_ hk;rcases g.vl e.To hr.2.2.1 hr.2.2.2.1 with r|⟨_,r,_⟩
    ·exact ih.lv e.To hr.2.2.1 hr.2.2.2.1 (by omega)
    ·omega
   ·have:0≤ati (dN p L k) e.From:=by
     refine ih.cl e he h2 ?_ ?_
     all_goals (rcases g.vl e.To hr.2.2.1 hr.2.2.2.1 with r|⟨_,r,_⟩<;>omega)
    rcases g.vl e.From hr.1 hr.2.1 with r|⟨r,_⟩<;>omega
theorem Q79 {d:Int} {out:List Int}:∀ {l:List Qc},(∀ e∈l,Qy7 L d out e=false)→l.foldl (Qo9 L d) out=out
 | [],_=>rfl
 | x::l,h=>by
  rw [List.foldl_cons];have:Qo9 L d out x=out:=by unfold Qo9;rw [h x (by simp)];rfl
  rw [this];exact Q79 fun e he=>h e (by simp [he])
theorem Q8a {k:Nat} (h:dN p L (k+1)=dN p L k):∀ m:Nat,k≤m→dN p L m=dN p L k
 | 0,hm=>by
  obtain rfl:k=0:=by omega
  rfl
 | m+1,hm=>by
  by_cases hk:k=m+1
  ·subst hk;rfl
  ·have ih:=Q8a h m (by omega);show p.zB.zQ.foldl (Qo9 L (m:Int)) (dN p L m)=_;by_cases hkm:k=m
   ·subst hkm;exact h
   ·rw [ih];refine Q79 hp L fun e he=>?_;have hr:=hp.a.ed0 e he;have:=(Qbfb hp L k).rg e.To hr.2.2.1 hr.2.2.2.1;unfold Qy7;have:(ati (dN p L k) e.To==(m:Int))=false:=by rw [beq_eq_false_iff_ne];omega
    rw [this];simp
theorem DI.bound {k:Int} {out:List Int} (h:DI p L k out) {y:Int} (h0:0≤y) (h1:y<p.zB.zS):ati out y<p.zB.zS:=by
 have key:∀ (v:Nat) (y:Int),0≤y→y<p.zB.zS→ati out y=v→∀ j:Nat,j≤v→∃ x,0≤x∧x<p.zB.zS∧ati out x=j:=by
  intro v
  induction v with
  | zero=>intro y h0 h1 hv j hj;exact ⟨y,h0,h1,by omega⟩
  | succ v ih =>
   intro y h0 h1 hv j hj;by_cases hjv:j=v+1
   ·exact ⟨y,h0,h1,by omega⟩
   ·obtain ⟨e,he,_,_,q⟩:=h.ps y h0 h1 (by omega);have hr:=hp.a.ed0 e he;exact ih e.To hr.2.2.1 hr.2.2.2.1 (by omega) j (by omega)
 refine Decidable.byContradiction fun hc=>?_;have hst:=hp.a.st;have hk:=key (ati out y).toNat y h0 h1 (by omega);have hsub:∀ x∈upto (ati out y+1),x∈(upto p.zB.zS).map (ati out):=fun x hx=>by
  rw [Qim] at hx;obtain ⟨z,k1,k2,k3⟩:=hk x.toNat (by omega);exact List.mem_map.2 ⟨z,Qim.2 ⟨k1,k2⟩,by omega⟩
 have hnd:(upto (ati out y+1)).Nodup:=(Qn1 _).imp fun h=>by omega
 have hlen:∀ {l m:List Int},l.Nodup→(∀ x∈l,x∈m)→l.length≤m.length:=fun {l m} h hs=>by
  induction l generalizing m with
  | nil=>simp
  | cons x l ih =>
   obtain ⟨a1,a2⟩:=List.nodup_cons.1 h;have hx:=hs x (by simp);have:=ih (m:=m.erase x) a2 fun y hy=>(List.mem_erase_of_ne (by rintro rfl;exact a1 hy)).2 (hs y (by simp [hy]));rw [List.length_erase_of_mem hx] at this;have:0<m.length:=List.length_pos_of_mem hx;simp only [List.length_cons];omega
 have:=hlen hnd hsub;rw [Qbm,List.length_map,Qbm] at this;omega
theorem Qpa:DI p L p.zB.zS (Qqd p L):=by
 have:=Qbfb hp L p.zB.zS.toNat;have hst:=hp.a.st;rw [show ((p.zB.zS.toNat:Nat):Int)=p.zB.zS by omega] at this;exact this
end
end Go.Abs
end
section
namespace Go.Abs
open Go
theorem Qiy {n:Int} {k:Nat} (h:k<(upto n).length):k<n.toNat:=by rw [Qbm] at h;exact h
def Qrq (L:List Bool) (d:Int) (s:Bool×List Int) (x:Qc):Bool×List Int:=if Qy7 L d s.2 x then (true,s.2.set x.From.toNat (d+1)) else s
theorem Q8b {L:List Bool} {d:Int}:∀ {l:List Qc} {s:Bool×List Int},(l.foldl (Qrq L d) s).2=l.foldl (Qo9 L d) s.2
 | [],s=>rfl
 | x::l,s=>by
  rw [List.foldl_cons,List.foldl_cons,Q8b (l:=l)];congr 1;unfold Qrq Qo9;cases Qy7 L d s.2 x<;>rfl
section
variable {p:Qb} (hp:RightP p) {L:List Bool} {d:Int} (hd:0≤d)
include hp hd
theorem Q8c:∀ {l:List Qc} {s:Bool×List Int},(∀ x∈l,x∈p.zB.zQ)→s.2.length=p.zB.zS.toNat→(l.foldl (Qrq L d) s).1=true→s.1=true∨∃ y,0≤y∧y<p.zB.zS∧ati (l.foldl (Qo9 L d) s.2) y=d+1
 | [],s,_,_,h=>.inl h
 | x::l,s,hm,hl,h=>by
  rw [List.foldl_cons] at h ⊢;have hx:=hm x (by simp);have hr:=hp.a.ed0 x hx;have g1:=Q0b (L:=L) hp hd hl hx;have e2:(Qrq L d s x).2=Qo9 L d s.2 x:=by unfold Qrq Qo9;cases Qy7 L d s.2 x<;>rfl
  rcases Q8c (l:=l) (s:=Qrq L d s x) (fun y hy=>hm y (by simp [hy])) (by rw [e2,g1.ln,hl]) h with q|q
  ·cases hc:Qy7 L d s.2 x with
   | false =>
    have:Qrq L d s x=s:=by unfold Qrq;rw [hc];rfl
    rw [this] at q;exact .inl q
   | true =>
    refine .inr ⟨x.From,hr.1,hr.2.1,?_⟩;have k1:ati (Qo9 L d s.2 x) x.From=d+1:=by
     unfold Qo9;rw [hc,if_pos rfl,Qz8 ⟨hr.1,by omega⟩ hr.1,if_pos rfl]
    have g2:=Qy8 (L:=L) hp hd (l:=l) (out:=Qo9 L d s.2 x) (fun y hy=>hm y (by simp [hy])) (by rw [g1.ln,hl]);rcases g2.vl x.From hr.1 hr.2.1 with r|⟨r,_⟩<;>omega
  ·rw [e2] at q;exact .inr q
theorem Q8d:∀ {l:List Qc} {s:Bool×List Int},(l.foldl (Qrq L d) s).1=false→l.foldl (Qo9 L d) s.2=s.2
 | [],s,_=>rfl
 | x::l,s,h=>by
  rw [List.foldl_cons] at h ⊢;have mono:∀ {l:List Qc} {s:Bool×List Int},s.1=true→(l.foldl (Qrq L d) s).1=true:=by
   intro l
   induction l with
   | nil=>intro s h;exact h
   | cons y l ih=>intro s h;rw [List.foldl_cons];refine ih ?_;unfold Qrq;cases Qy7 L d s.2 y<;>simp [h]
  cases hc:Qy7 L d s.2 x with
  | true =>
   have:(Qrq L d s x).1=true:=by unfold Qrq;rw [hc];rfl
   rw [mono this] at h;cases h
  | false =>
   have e1:Qrq L d s x=s:=by unfold Qrq;rw [hc];rfl
   have e2:Qo9 L d s.2 x=s.2:=by unfold Qo9;rw [hc];rfl
   rw [e1] at h;rw [e2];exact Q8d h
end
section
variable {p:Qb} (hp:RightP p) {L:List Bool} (hL:L.length=p.zB.zS.toNat)
theorem Qbb9 {c:List Int} (hc:c.length=p.zB.zS.toNat):(upto p.zB.zS).foldl (fun c i=>c.set i.toNat (if lf L i&&decide (i∈p.zB.zP) then 0 else -1)) c=Qbfa p L:=Qy5 hc
include hp hL
theorem Q0s:Qc0 (tsk p L)=some (Qqd p L):=by
 unfold Qc0 Qt;obtain ⟨fuel,hfu,hge⟩ : ∃ f,Qbb=f∧1099511627776≤f:=⟨_,rfl,Nat.le_refl _⟩;rw [hfu];rw [show (tsk p L).left_=L from rfl,show (tsk p L).zT=p from rfl];have hst:=hp.a.st;have hsm:=hp.a.small;rw [show mkO p.zB.zS (0:Int)=some (List.replicate p.zB.zS.toNat 0) from by unfold mkO lim;rw [if_pos (by omega)]];rw [Option.bind_some];refine Option.bind_eq_some_iff.2 ⟨Qbfa p L,?_,?_⟩
 ·refine (Qc6 (l:=upto p.zB.zS) (fun i (c:List Int)=>(i,c)) (fun c i=>c.set i.toNat (if lf L i&&decide (i∈p.zB.zP) then 0 else -1)) (fun _ c=>c.length=p.zB.zS.toNat) (fun c=>some c) (by rw [Qbm];unfold big;omega) hge (fun k n s hn hs=>?_) (fun n s hn hs=>by rw [List.length_set];exact hs) (fun k s hs=>?_) (by simp)).trans ?_
  ·have hn':=Qiy hn;dsimp only;rw [Qkb hn,if_pos (by omega),Qkf (by omega) (by omega),Qkm (by omega) (by omega)];simp only [Option.bind_some,Qhk hL (p:=p) (x:=(n:Int)) ⟨by omega,by omega⟩];rw [Qcn hp.a.ma hsm.1.2.1,Qkm (by omega) (by rw [List.length_set];omega)];cases lf L (n:Int)<;>by_cases hm:(n:Int)∈p.zB.zP<;>simp [hm]
  ·dsimp only;rw [Qbm,if_neg (by omega)]
  ·rw [Qbb9 (by simp)]
 have hround:∀ (d:Nat) (c:List Int),c.length=p.zB.zS.toNat→d≤4096→Qbi (fun (k41:Bool×Int×List Int→Option (Bool×List Int)) ((more38,x39,c40):Bool×Int×(List Int))=>(if (x39<(p.zB.zQ.length:Int)) then ((((getO p.zB.zQ x39).bind fun x43=>((((inO L.length x43.From).bind fun u45=>((getO L x43.From).bind fun x47=>(if x47 then ((inO L.length x43.To).bind fun u50=>((getO L x43.To).bind fun x52=>(if x52 then ((inO (Int.toNat p.zB.zS) x43.From).bind fun u55=>((getO c40 x43.From).bind fun x57=>(if (x57<0) then ((inO (Int.toNat p.zB.zS) x43.To).bind fun u60=>((getO c40 x43.To).bind fun x62=>some (x62==(IntKind.wrap .i64 (((d:Int)+1)-1))))) else some false))) else some false))) else some false)))).bind fun (x64:Bool)=>(if x64 then ((inO (Int.toNat p.zB.zS) x43.From).bind fun u66=>((setO c40 x43.From ((d:Int)+1)).bind fun x68=>some (true,x68,x43.From,x43.Event,x43.To))) else some (more38,c40,x43.From,x43.Event,x43.To))))).bind fun ((more70,c71,c72,c73,c74):Bool×(List Int)×Int×Int×Int)=>k41 (more70,(IntKind.wrap .i64 (x39+1)),c71)) else some (more38,c40))) fuel (false,0,c)=some (p.zB.zQ.foldl (Qrq L d) (false,c)):=by
  intro d c hc hd;refine (Qc6 (l:=p.zB.zQ) (fun i (s:Bool×List Int)=>(s.1,i,s.2)) (Qrq L d) (fun _ s=>s.2.length=p.zB.zS.toNat) (fun s=>some s) hsm.1.2.2 hge (fun k n s hn hs=>?_) (fun n s hn hs=>by unfold Qrq;split<;>simp [hs]) (fun k s hs=>?_) (s0:=(false,c)) hc)
  ·have hr:=hp.a.ed0 _ (List.getElem_mem hn);dsimp only;rw [if_pos (by omega),Qx hn];simp only [Option.bind_some,Qhk hL (p:=p) (x:=p.zB.zQ[n].From) ⟨hr.1,hr.2.1⟩,Qhk hL (p:=p) (x:=p.zB.zQ[n].To) ⟨hr.2.2.1,hr.2.2.2.1⟩];rw [Qkf hr.1 (by omega),Qkf hr.2.2.1 (by omega),Ql3 (d:=0) (l:=s.2) hr.1 (by omega),Ql3 (d:=0) (l:=s.2) hr.2.2.1 (by omega),Qkm (l:=s.2) hr.1 (by omega),Qh3 (x:=(d:Int)+1-1) (by omega) (by omega)];unfold Qrq Qy7;simp only [Option.bind_some,show (d:Int)+1-1=d by omega];generalize p.zB.zQ[n]=e at hr ⊢;cases lf L e.From<;>cases lf L e.To<;>by_cases h1:ati s.2 e.From<0<;>by_cases h2:ati s.2 e.To=d<;>simp [h1,h2]
  ·dsimp only;rw [if_neg (by omega)]
 have hlast:(lenO (Qqd p L) (Int.toNat p.zB.zS))=some ():=Qof (Qpa hp L).ln;refine Option.bind_eq_some_iff.2 ⟨Qqd p L,?_,by rw [hlast];rfl⟩;refine Qv7 (fun x=>∃ d:Nat,x.1=(d:Int)+1∧x.2.2=dN p L d∧(x.2.1=true∧d≤p.zB.zS.toNat∨x.2.1=false∧dN p L d=Qqd p L)) (fun x=>p.zB.zS.toNat+4-x.1.toNat) (some (Qqd p L)) ⟨0,rfl,rfl,.inl ⟨rfl,by omega⟩⟩ (by dsimp only;omega) ?_;rintro k ⟨r,more,c⟩ ⟨d,hr,hc,hm⟩ ih;dsimp only at hr hc hm ih ⊢;subst hr hc;rcases hm with ⟨rfl,hdn⟩|⟨rfl,hq⟩
 ·rw [if_pos rfl];have hln:=(Qbfb hp L d).ln;rw [hround d _ hln (by omega),Option.bind_some];have hsnd:(p.zB.zQ.foldl (Qrq L d) (false,dN p L d)).2=dN p L (d+1):=Q8b;have hd0:(0:Int)≤(d:Int):=by omega
  have hwr:IntKind.wrap .i64 ((d:Int)+1+1)=((d+1:Nat):Int)+1:=by rw [Qh3 (by omega) (by omega)];omega
  generalize hgen:p.zB.zQ.foldl (Qrq L d) (false,dN p L d)=R at hsnd;obtain ⟨m,c'⟩:=R;dsimp only at hsnd ⊢;subst hsnd;rw [hwr];refine ih _ ⟨d+1,rfl,rfl,?_⟩ (by dsimp only;omega);cases m with
  | true =>
   left;refine ⟨rfl,?_⟩;rcases Q8c hp hd0 (L:=L) (l:=p.zB.zQ) (s:=(false,dN p L d)) (fun _ h=>h) hln (by rw [hgen]) with q|⟨y,h0,h1,h2⟩
   ·cases q
   ·have:=(Qbfb hp L (d+1)).bound hp L h0 h1;have h2:ati (dN p L (d+1)) y=(d:Int)+1:=h2;omega
  | false =>
   right;refine ⟨rfl,?_⟩;have hs:dN p L (d+1)=dN p L d:=Q8d hp hd0 (L:=L) (l:=p.zB.zQ) (s:=(false,dN p L d)) (by rw [hgen]);rw [hs];exact (Q8a hp L hs _ hdn).symm
 ·rw [if_neg (by simp),hq]
end
section
variable {p:Qb} (hp:RightP p) {R:List Int} (hR:Qbjo p R) (T:List Qd) (r:Int)
include hp hR
end
end Go.Abs
end
section
namespace Go.Abs
open Go
def remE (p:Qb) (L:List Bool) (rank i:Int):Option Qd:=if lf L i&&((escP p L i).1 != 0) then some ⟨i,rank,(escP p L i).1,(escP p L i).2⟩ else none
def remB (p:Qb) (L:List Bool) (rank i:Int):Option Qd:=if lf L i&&decide (ati (Qqd p L) i<0) then some ⟨i,rank,3,-1⟩ else none
def Qt1 (p:Qb) (L:List Bool) (rank:Int):List Qd:=(upto p.zB.zS).filterMap (remE p L rank)
def Q8e (p:Qb) (L:List Bool) (rank:Int):List Qd:=(upto p.zB.zS).filterMap (remB p L rank)
def Qic (p:Qb) (L:List Bool) (rank:Int):List Qd:=if ((Qt1 p L rank).length:Int)>0 then Qt1 p L rank else Q8e p L rank
section
variable {p:Qb} (hp:RightP p) {L:List Bool} (hL:L.length=p.zB.zS.toNat) (rank:Int)
include hp hL
theorem Qbg4:Qdw (tsk p L) rank=some (Qic p L rank):=by
 unfold Qdw Qby;obtain ⟨fuel,hfu,hge⟩ : ∃ f,Qbb=f∧1099511627776≤f:=⟨_,rfl,Nat.le_refl _⟩;rw [hfu,Q0s hp hL];rw [show (tsk p L).left_=L from rfl];have hst:=hp.a.st;have hul:(upto p.zB.zS).length<big:=by rw [Qbm];unfold big;omega
 have huf:(upto p.zB.zS).length<fuel:=by rw [Qbm];omega
 rw [Qy1 (l:=upto p.zB.zS) (f:=remE p L rank) hul huf (fun k acc n hn ha=>by
  have hn':=Qiy hn;dsimp only;rw [Qkb hn,if_pos (by omega),Qbe2 hp hL ⟨by omega,by omega⟩];simp only [Option.bind_some,Qhk hL (p:=p) (x:=(n:Int)) ⟨by omega,by omega⟩];rw [Q3 (by simp only [List.length_cons,List.length_nil];unfold lim;omega)];unfold remE;cases lf L (n:Int)<;>by_cases h1:(escP p L (n:Int)).1=0<;>simp [h1]) (fun k acc=>by
  dsimp only;rw [Qbm,if_neg (by omega)]),Option.bind_some]
 unfold Qic;by_cases hE:((Qt1 p L rank).length:Int)>0
 ·rw [if_pos hE,if_pos (show ((((upto p.zB.zS).filterMap (remE p L rank)).length:Nat):Int)>0 from hE)];rfl
 ·rw [if_neg hE,if_neg (show ¬ ((((upto p.zB.zS).filterMap (remE p L rank)).length:Nat):Int)>0 from hE)];have hnil:(upto p.zB.zS).filterMap (remE p L rank)=[]:=List.eq_nil_of_length_eq_zero (by unfold Qt1 at hE;omega);rw [hnil];simp only [Option.bind_some];have hdl:=(Qpa hp L).ln;rw [Qy1 (l:=upto p.zB.zS) (f:=remB p L rank) hul huf (fun k acc n hn ha=>by
   have hn':=Qiy hn;dsimp only;rw [Qkb hn,if_pos (by omega),Ql3 (d:=0) (l:=Qqd p L) (by omega) (by omega)];simp only [Option.bind_some,Qhk hL (p:=p) (x:=(n:Int)) ⟨by omega,by omega⟩];rw [Q3 (by simp only [List.length_cons,List.length_nil];unfold lim;omega)];unfold remB;cases lf L (n:Int)<;>by_cases h1:ati (Qqd p L) (n:Int)<0<;>simp [h1]) (fun k acc=>by
   dsimp only;rw [Qbm,if_neg (by omega)])]
  rfl
end
section
variable {p:Qb} (hp:RightP p) {R:List Int} (hR:Qbjo p R) (T:List Qd) (r rank:Int)
include hp hR
end
end Go.Abs
end
section
namespace Go.Abs
open Go
abbrev nS (p:Qb):Nat:=p.zB.zS.toNat
def Qbn (p:Qb) (T:List Qd):List Bool:=T.foldl (fun c x=>c.set x.State.toNat false) (List.replicate (nS p) true)
def Qvv (p:Qb) (T:List Qd):List Qd:=T.foldl (fun c x=>c.set x.State.toNat x) (List.replicate (nS p) ⟨0,0,0,0⟩)
theorem Qh5 (p:Qb) (T:List Qd):(Qbn p T).length=nS p:=by unfold Qbn;rw [Q53 (f:=fun x:Qd=>x.State.toNat) (g:=fun _=>false),List.length_replicate]
theorem Q8f (p:Qb) (T:List Qd):(Qvv p T).length=nS p:=by unfold Qvv;rw [Q53 (f:=fun x:Qd=>x.State.toNat) (g:=fun x=>x),List.length_replicate]
structure Okt (p:Qb) (T:List Qd):Prop where
 rg:∀ x∈T,0≤x.State∧x.State<p.zB.zS
 rk:∀ x∈T,1≤x.Rank
 nd:(T.map (·.State)).Nodup
theorem Q1d {p:Qb} {T:List Qd} (h:∀ x∈T,0≤x.State∧x.State<p.zB.zS) {y:Int} (h0:0≤y) (h1:y<p.zB.zS):lf (Qbn p T) y = !T.any fun x=>x.State==y:=by
 have key:∀ (T:List Qd) (c:List Bool),(∀ x∈T,0≤x.State∧x.State<p.zB.zS)→c.length=nS p→lf (T.foldl (fun c x=>c.set x.State.toNat false) c) y=(lf c y && !T.any fun x=>x.State==y):=by
  intro T
  induction T with
  | nil=>intro c _ _;simp
  | cons x T ih =>
   intro c hT hc;have hx:=hT x (by simp);rw [List.foldl_cons,ih _ (fun z hz=>hT z (by simp [hz])) (by rw [List.length_set];exact hc),Qbky ⟨hx.1,by unfold nS at hc;omega⟩ h0,List.any_cons];by_cases hq:y=x.State
   ·subst hq;simp
   ·rw [if_neg hq];have:(x.State==y)=false:=by rw [beq_eq_false_iff_ne];exact fun e=>hq e.symm
    rw [this];simp
 unfold Qbn;rw [key T _ h (by simp)];have:lf (List.replicate (nS p) true) y=true:=Q7z h0 (by unfold nS;omega);rw [this,Bool.true_and]
theorem Qsn {p:Qb} {L:List Bool} {rank:Int} {x:Qd} (hx:x∈Qic p L rank):(0≤x.State∧x.State<p.zB.zS)∧lf L x.State=true∧x.Rank=rank:=by
 have hE:∀ x∈Qt1 p L rank,(0≤x.State∧x.State<p.zB.zS)∧lf L x.State=true∧x.Rank=rank:=fun x hx=>by
  obtain ⟨i,hi,h⟩:=List.mem_filterMap.1 hx;unfold remE at h;split at h<;>cases h;rename_i hc;exact ⟨Qim.1 hi,by simp only [Bool.and_eq_true] at hc;exact hc.1,rfl⟩
 have hB:∀ x∈Q8e p L rank,(0≤x.State∧x.State<p.zB.zS)∧lf L x.State=true∧x.Rank=rank:=fun x hx=>by
  obtain ⟨i,hi,h⟩:=List.mem_filterMap.1 hx;unfold remB at h;split at h<;>cases h;rename_i hc;exact ⟨Qim.1 hi,by simp only [Bool.and_eq_true] at hc;exact hc.1,rfl⟩
 unfold Qic at hx;split at hx
 ·exact hE x hx
 ·exact hB x hx
theorem Qbfc {f:Int→Option Qd} (hf:∀ i x,f i=some x→x.State=i) {l:List Int} (h:l.Pairwise (· < ·)):((l.filterMap f).map (·.State)).Pairwise (· < ·):=by
 rw [List.pairwise_map,List.pairwise_filterMap];refine h.imp fun {a b} hab x hx y hy=>?_;rw [hf a x hx,hf b y hy];exact hab
theorem Q9j (p:Qb) (L:List Bool) (rank:Int):((Qic p L rank).map (·.State)).Pairwise (· < ·):=by
 unfold Qic;split
 ·exact Qbfc (fun i x h=>by unfold remE at h;split at h<;>cases h;rfl) (Qn1 _)
 ·exact Qbfc (fun i x h=>by unfold remB at h;split at h<;>cases h;rfl) (Qn1 _)
theorem Okt.round {p:Qb} {T:List Qd} (h:Okt p T) {rank:Int} (hr:1≤rank):Okt p (T++Qic p (Qbn p T) rank):=by
 refine ⟨fun x hx=>?_,fun x hx=>?_,?_⟩
 ·rcases List.mem_append.1 hx with hx|hx
  ·exact h.rg x hx
  ·exact (Qsn hx).1
 ·rcases List.mem_append.1 hx with hx|hx
  ·exact h.rk x hx
  ·rw [(Qsn hx).2.2];exact hr
 ·rw [List.map_append,List.nodup_append];refine ⟨h.nd,(Q9j p _ rank).imp fun h=>by omega,fun a ha b hb=>?_⟩;obtain ⟨x,hx,rfl⟩:=List.mem_map.1 ha;obtain ⟨y,hy,rfl⟩:=List.mem_map.1 hb;obtain ⟨k1,k2,_⟩:=Qsn hy;intro e;rw [Q1d h.rg k1.1 k1.2] at k2;simp only [Bool.not_eq_true',List.any_eq_false] at k2;exact k2 x hx (by simp [e])
theorem Okt.len {p:Qb} {T:List Qd} (h:Okt p T):T.length≤nS p:=by
 have hsub:∀ x∈T.map (·.State),x∈upto p.zB.zS:=fun x hx=>by
  obtain ⟨y,hy,rfl⟩:=List.mem_map.1 hx;exact Qim.2 (h.rg y hy)
 have hlen:∀ {l m:List Int},l.Nodup→(∀ x∈l,x∈m)→l.length≤m.length:=fun {l m} h hs=>by
  induction l generalizing m with
  | nil=>simp
  | cons x l ih =>
   obtain ⟨a1,a2⟩:=List.nodup_cons.1 h;have hx:=hs x (by simp);have:=ih (m:=m.erase x) a2 fun y hy=>(List.mem_erase_of_ne (by rintro rfl;exact a1 hy)).2 (hs y (by simp [hy]));rw [List.length_erase_of_mem hx] at this;have:0<m.length:=List.length_pos_of_mem hx;simp only [List.length_cons];omega
 have:=hlen h.nd hsub;rw [List.length_map,Qbm] at this;exact this
def T0 (p:Qb):List Qd:=p.zD.map fun x=>⟨x,1,1,-1⟩
def r0 (p:Qb):Int:=if p.zD=[] then 0 else 1
def Qqe (p:Qb):Nat→Int→List Qd→Int→List Qd×Int
 | 0,_,T,r=>(T,r)
 | f+1,rank,T,r=>if Qic p (Qbn p T) rank=[] then (T,r) else Qqe p f (rank+1) (T++Qic p (Qbn p T) rank) rank
def solP (p:Qb):List Qd×Int:=Qqe p (nS p+1) 2 (T0 p) (r0 p)
theorem Qbfd {p:Qb} (hp:RightP p):Okt p (T0 p):=by
 unfold T0;refine ⟨fun x hx=>?_,fun x hx=>?_,?_⟩
 ·obtain ⟨y,hy,rfl⟩:=List.mem_map.1 hx;exact hp.fo.rg y hy
 ·obtain ⟨y,hy,rfl⟩:=List.mem_map.1 hx;exact Int.le_refl _
 ·rw [List.map_map];have:((fun x:Qd=>x.State) ∘ fun x:Int=>(⟨x,1,1,-1⟩ : Qd))=id:=rfl;rw [this,List.map_id];exact hp.fo.so.imp fun h=>by omega
end Go.Abs
end
section
namespace Go.Abs
open Go
theorem Qvw {α β γ:Type} {f:α→γ→α} {g:β→γ→β}:∀ {l:List γ} {a:α} {b:β},l.foldl (fun s x=>(f s.1 x,g s.2 x)) (a,b)=(l.foldl f a,l.foldl g b)
 | [],_,_=>rfl
 | x::l,a,b=>by rw [List.foldl_cons,Qvw (l:=l)];rfl
theorem Q4q {p:Qb} {T l:List Qd}:l.foldl (fun c x=>c.set x.State.toNat false) (Qbn p T)=Qbn p (T++l):=by unfold Qbn;rw [List.foldl_append]
theorem Qbca {p:Qb} {T l:List Qd}:l.foldl (fun c x=>c.set x.State.toNat x) (Qvv p T)=Qvv p (T++l):=by unfold Qvv;rw [List.foldl_append]
theorem Qbkz {p:Qb} (hp:RightP p):(upto p.zB.zS).map (fun i=>!decide (i∈p.zD))=Qbn p (T0 p):=by
 refine Q70 (d:=false) (by rw [Qh5,List.length_map,Qbm]) fun x h0 h1=>?_;rw [List.length_map,Qbm] at h1;have h2:x<p.zB.zS:=by omega
 rw [Qog h0 h2];have:=Q1d (Qbfd hp).rg h0 h2;rw [show at0 false (Qbn p (T0 p)) x=lf (Qbn p (T0 p)) x from rfl,this];congr 1;unfold T0;rw [List.any_map,Bool.eq_iff_iff,List.any_eq_true];simp
section
variable {p:Qb} (hp:RightP p)
include hp
theorem Qbg5:Qg0 p=some (tsk p (Qbn p (T0 p))):=by
 unfold Qg0 Qcr;obtain ⟨fuel,hfu,hge⟩ : ∃ f,Qbb=f∧1099511627776≤f:=⟨_,rfl,Nat.le_refl _⟩;rw [hfu];have hst:=hp.a.st;have hsm:=hp.a.small;have hpl:=hp.small;have hmk:∀ {α:Type} (v:α),mkO p.zB.zS v=some (List.replicate (nS p) v):=fun v=>by unfold mkO lim;rw [if_pos (by omega)]
 rw [hmk,hmk];simp only [Option.bind_some];refine Option.bind_eq_some_iff.2 ⟨Qz9 p,?_,?_⟩
 ·refine (Qix (len:=p.zB.zQ.length) (fun n (c:List (List Qc))=>((n:Int),c)) (fun n c=>c=(upto p.zB.zS).map fun i=>(p.zB.zQ.take n).filter fun x=>x.From==i) (fun n c=>some (Qz9 p)) ?_ ?_ fuel 0 (List.replicate (nS p) []) (Nat.zero_le _) (by have:=hsm.1.2.2;unfold big at this;omega) ?_)
  ·rintro k n c hn hc ih;have hr:=hp.a.ed0 _ (List.getElem_mem hn);have hcl:c.length=nS p:=by rw [hc,List.length_map,Qbm]
   have hb:=hsm.2.2.2;have hlen:((p.zB.zQ.take n).filter fun x=>x.From==p.zB.zQ[n].From).length≤n:=Nat.le_trans (List.length_filter_le _ _) (by rw [List.length_take];omega);dsimp only;rw [if_pos (by omega),Qx hn,Option.bind_some,Qkf hr.1 (by omega),Option.bind_some,Ql3 (d:=[]) hr.1 (by unfold nS at hcl;omega),Option.bind_some];have hat:at0 [] c p.zB.zQ[n].From=(p.zB.zQ.take n).filter fun x=>x.From==p.zB.zQ[n].From:=by rw [hc,Qog hr.1 hr.2.1]
   rw [hat,Q3 (by simp only [List.length_cons,List.length_nil];unfold lim;omega),Option.bind_some,Option.bind_some,Qkm hr.1 (by unfold nS at hcl;omega),Option.bind_some,Qbq (by omega)];refine ih _ ?_;refine Q70 (d:=[]) (by rw [List.length_set,hcl,List.length_map,Qbm]) fun y h0 h1=>?_;rw [List.length_set,hcl] at h1;have h2:y<p.zB.zS:=by unfold nS at h1;omega
   rw [Qbaz ⟨hr.1,by unfold nS at hcl;omega⟩ h0,Qog h0 h2,List.take_succ_eq_append_getElem hn,List.filter_append];by_cases hq:y=p.zB.zQ[n].From
   ·rw [if_pos hq,← hq];simp [hq]
   ·rw [if_neg hq,hc,Qog h0 h2];have:(p.zB.zQ[n].From==y)=false:=by rw [beq_eq_false_iff_ne];exact fun e=>hq e.symm
    simp [this]
  ·rintro k c hc;dsimp only;rw [if_neg (by omega),hc,List.take_length]
   rfl
  ·refine Q70 (d:=[]) (by rw [List.length_replicate,List.length_map,Qbm]) fun y h0 h1=>?_;rw [List.length_replicate] at h1;have h2:y<p.zB.zS:=by unfold nS at h1;omega
   rw [Q7z h0 (by unfold nS at h1 ⊢;omega),Qog h0 h2];simp
 refine Option.bind_eq_some_iff.2 ⟨Qbn p (T0 p),?_,?_⟩
 ·refine (Qc6 (l:=upto p.zB.zS) (fun i (c:List Bool)=>(i,c)) (fun c i=>c.set i.toNat (!decide (i∈p.zD))) (fun _ c=>c.length=nS p) (fun c=>some c) (by rw [Qbm];unfold big;omega) hge (fun k n s hn hs=>?_) (fun n s hn hs=>by rw [List.length_set];exact hs) (fun k s hs=>?_) (s0:=List.replicate (nS p) false) (by simp)).trans ?_
  ·have hn':=Qiy hn;dsimp only;rw [Qkb hn,if_pos (by omega),Qcn hp.fo.so hpl.2.1,Option.bind_some,Qkf (by omega) (by omega),Option.bind_some,Qkm (by omega) (by unfold nS at hs;omega),Option.bind_some]
  ·dsimp only;rw [Qbm,if_neg (by omega)]
  ·rw [Qy5 (by simp),Qbkz hp]
 rw [Qof (by unfold Qz9;rw [List.length_map,Qbm]),Option.bind_some,Qof (Qh5 p _),Option.bind_some]
 rfl
theorem Qbcb {fuel:Nat} (hge:1099511627776≤fuel) {S:List Qd×Int} {f:Nat} (hS:Qqe p f 2 (T0 p) (r0 p)=S) (hf:nS p+1≤f+(T0 p).length) :
  Qbi (fun (k26:Int×Int×List Qd×List Bool→Option (Int×List Qd×List Bool)) ((rank22,r23,c24,c25):Int×Int×(List Qd)×(List Bool))=>((lenO c25 (nS p)).bind fun _=>((Qdw (tsk p c25) rank22).bind fun x29=>(if ((x29.length:Int)==0) then some (r23,c24,c25) else ((Qbi (fun k34 ((x31,c32,c33):Int×(List Qd)×(List Bool))=>(if (x31<(x29.length:Int)) then ((getO x29 x31).bind fun x36=>((inO (nS p) x36.State).bind fun u38=>((setO c33 x36.State false).bind fun x40=>((inO (Int.toNat ((nS p:Nat):Int)) x36.State).bind fun u42=>((setO c32 x36.State x36).bind fun x44=>k34 ((IntKind.wrap .i64 (x31+1)),x44,x40)))))) else some (c32,c33))) fuel (0,c24,c25)).bind fun ((c46,c47):(List Qd)×(List Bool))=>k26 ((IntKind.wrap .i64 (rank22+1)),rank22,c46,c47)))))) fuel (2,r0 p,Qvv p (T0 p),Qbn p (T0 p))=some (S.2,Qvv p S.1,Qbn p S.1):=by
 have hst:=hp.a.st;have hnS:nS p≤4096:=by unfold nS;omega
 refine Qv7 (fun x:Int×Int×List Qd×List Bool=>∃ (f:Nat) (T:List Qd),x.2.2.1=Qvv p T∧x.2.2.2=Qbn p T∧Okt p T∧Qqe p f x.1 T x.2.1=S∧nS p+1≤f+T.length∧2≤x.1∧x.1≤T.length+2) (fun x=>(6000-x.1).toNat) (some (S.2,Qvv p S.1,Qbn p S.1)) ⟨f,T0 p,rfl,rfl,Qbfd hp,hS,hf,by dsimp only;omega,by dsimp only;omega⟩ (by dsimp only;omega) ?_;rintro k ⟨rank,r,c,L⟩ ⟨f,T,hc,hL,hT,hS,hf,h2,hrk⟩ ih;dsimp only at hc hL hS hf h2 hrk ih ⊢;subst hc hL;have hTl:=hT.len;rw [Qof (Qh5 p T),Option.bind_some,Qbg4 hp (Qh5 p T),Option.bind_some];obtain ⟨f,rfl⟩ : ∃ g,f=g+1:=⟨f-1,by omega⟩;rw [Qqe] at hS;by_cases he:Qic p (Qbn p T) rank=[]
 ·rw [if_pos he] at hS;rw [if_pos (by rw [he];rfl)];subst hS;rfl
 ·rw [if_neg he] at hS;have hpos:0<(Qic p (Qbn p T) rank).length:=List.length_pos_iff.2 he;rw [if_neg (by simp only [beq_iff_eq];omega)];have hok:=hT.round (rank:=rank) (by omega);have hmem:∀ x∈Qic p (Qbn p T) rank,0≤x.State∧x.State<p.zB.zS:=fun x hx=>(Qsn hx).1;have hol:=hok.len;rw [List.length_append] at hol;generalize Qic p (Qbn p T) rank=l at *
  have hin:Qbi (fun (k34:Int×List Qd×List Bool→Option (List Qd×List Bool)) ((x31,c32,c33):Int×(List Qd)×(List Bool))=>(if (x31<(l.length:Int)) then ((getO l x31).bind fun x36=>((inO (nS p) x36.State).bind fun u38=>((setO c33 x36.State false).bind fun x40=>((inO (Int.toNat ((nS p:Nat):Int)) x36.State).bind fun u42=>((setO c32 x36.State x36).bind fun x44=>k34 ((IntKind.wrap .i64 (x31+1)),x44,x40)))))) else some (c32,c33))) fuel (0,Qvv p T,Qbn p T)=some (Qvv p (T++l),Qbn p (T++l)):=by
   refine (Qc6 (l:=l) (fun i (s:List Qd×List Bool)=>(i,s.1,s.2)) (fun s x=>(s.1.set x.State.toNat x,s.2.set x.State.toNat false)) (fun _ s=>s.1.length=nS p∧s.2.length=nS p) (fun s=>some s) (by unfold big;omega) hge (fun k n s hn hs=>?_) (fun n s hn hs=>by simp only [List.length_set];exact hs) (fun k s hs=>?_) (s0:=(Qvv p T,Qbn p T)) ⟨Q8f p T,Qh5 p T⟩).trans ?_
   ·have hr:=hmem _ (List.getElem_mem hn);obtain ⟨hs1,hs2⟩:=hs;unfold nS at hs1 hs2 ⊢;dsimp only;rw [if_pos (by omega),Qx hn,Option.bind_some,Qkf hr.1 (by omega),Option.bind_some,Qkm hr.1 (by omega),Option.bind_some,Int.toNat_natCast,Qkf hr.1 (by omega),Option.bind_some,Qkm hr.1 (by omega),Option.bind_some]
   ·dsimp only;rw [if_neg (by omega)]
   ·rw [← Qbca,← Q4q];exact congrArg some (Qvw (f:=fun (c:List Qd) (x:Qd)=>c.set x.State.toNat x) (g:=fun (c:List Bool) (x:Qd)=>c.set x.State.toNat false))
  rw [hin,Option.bind_some,Qh3 (by omega) (by omega)];refine ih _ ⟨f,T++l,rfl,rfl,hok,hS,by rw [List.length_append];omega,by dsimp only;omega,by dsimp only;rw [List.length_append];omega⟩ (by dsimp only;omega)
end
end Go.Abs
end
