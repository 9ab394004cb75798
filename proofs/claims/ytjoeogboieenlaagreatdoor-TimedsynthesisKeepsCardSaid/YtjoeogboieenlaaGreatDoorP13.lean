/-
  Part 13 of the proof: see the last text.
-/
import Derived.Test.YtjoeogboieenlaaGreatDoorP12
import Derived.ChangeSame
import Derived.ChangeVars
import Derived.JoinedOf
import Derived.LaidLaws
import Derived.LaidHandle
import Derived.LaidMore
import Derived.SevenTiedAt
import Derived.Test.YtjoeogboieenlaaGreatDoorRows
import Derived.Test.YtjoeogboieenlaaGreatDoorProg
import Derived.KernelRfl
set_option linter.unusedVariables false
set_option linter.unusedSimpArgs false
set_option linter.unusedSectionVars false
section
namespace Go.Abs
open Go
def Qbk3 (s:Nat):Bool:=decide (0≤orI .u8 (s:Int) 19∧orI .u8 (s:Int) 19<256)&&match Qb3 (orI .u8 (s:Int) 19) with
 | some l=>[0,1,4].all fun x=>decide ((x:Int)∈l)
 | none=>false
theorem Qbfw:(List.range 256).all Qbk3=true:=by kernel_rfl
theorem Q9q {s:Int} (h0:0≤s) (h1:s<256):(0≤orI .u8 s 19∧orI .u8 s 19<256)∧∃ l,Qb3 (orI .u8 s 19)=some l∧(0:Int)∈l∧(1:Int)∈l∧(4:Int)∈l:=by
 have:=List.all_eq_true.1 Qbfw s.toNat (List.mem_range.2 (by omega));unfold Qbk3 at this;rw [show ((s.toNat:Nat):Int)=s from by omega] at this;simp only [Bool.and_eq_true,decide_eq_true_eq] at this;refine ⟨this.1,?_⟩;have h2:=this.2;split at h2
 ·rename_i l hl;simp only [List.all_cons,List.all_nil,Bool.and_eq_true,decide_eq_true_eq] at h2;exact ⟨l,hl,h2.1,h2.2.1,h2.2.2.1⟩
 ·cases h2
theorem Qbhh (c e:Int) (h0 : -2<c) (h1:c<1000000):((if (e==0) then some (decide (c<0)) else some false).bind fun (x67:Bool)=>(if x67 then some 0 else (if (e==1) then some (-1) else (((if (e==4) then some (decide (c≥0)) else some false)).bind fun (x71:Bool)=>(if x71 then some (IntKind.wrap .i64 (c+1)) else some c)))))=some (updC c e):=by
 rw [Qh3 (by omega) (by omega)];unfold updC;by_cases e0:e=0
 ·subst e0;by_cases hc:c<0<;>simp [hc]
 ·by_cases e1:e=1
  ·subst e1;simp
  ·by_cases e4:e=4
   ·subst e4;by_cases hc:c≥0<;>simp [hc]
   ·simp [e0,e1,e4]
theorem Qbjz {c e:Int} {n:Nat} (h0 : -2<c) (h1:c<n) : -2<updC c e∧updC c e<((n+1:Nat):Int):=by
 unfold updC;split
 ·omega
 ·split
  ·omega
  ·split<;>omega
theorem Q6f {k:Qba} (hk:Q6c k) {ticks:Int} (ht:0≤ticks∧ticks<256):Qef k ticks=some true:=by
 unfold Qef Qee;obtain ⟨fuel,hfu,hge⟩ : ∃ f,Qbb=f∧1099511627776≤f:=⟨_,rfl,Nat.le_refl _⟩;obtain ⟨⟨e0,e1⟩,ev,hev,m0,m1,m4⟩:=Q9q hk.ev.1 hk.ev.2;have hk' : Q6c ⟨⟨orI .u8 k.Part.Events 19,k.Part.Graph⟩,k.zD,k.zC,k.zF⟩:=⟨⟨e0,e1⟩,hk.gr,hk.fo,hk.un,hk.fc⟩;obtain ⟨p,hM,hp,hti,hp5,hal5,hun4,hfc4⟩:=Q9k hk';have hpal:p.zB.zO=ev:=by
  unfold Qgc Qcw at hM;obtain ⟨ev',q1,hM⟩:=Option.bind_eq_some_iff.1 hM;obtain ⟨a,q2,hM⟩:=Option.bind_eq_some_iff.1 hM;obtain ⟨_,_,hM⟩:=Option.bind_eq_some_iff.1 hM;obtain ⟨_,_,hM⟩:=Option.bind_eq_some_iff.1 hM;obtain ⟨_,_,hM⟩:=Option.bind_eq_some_iff.1 hM;rw [hev] at q1;cases q1;obtain ⟨ev2,hE2,hev2⟩:=Q7y e0 e1;rw [hev] at hE2;cases hE2;obtain ⟨m,hm,hmal,hmk,hm5⟩:=Qbex hev2 hk.gr;rw [hmk] at q2;cases q2;cases hM;exact hmal
 rw [hfu,Qbb5,Option.bind_some,if_pos rfl,hM,Option.bind_some];have htm:=Int.tmod_lt_of_pos ticks (show (0:Int)<3 by omega);have htn:=Int.tmod_nonneg 3 ht.1;rw [Qh3 (x:=Int.tmod ticks 3) (by omega) (by omega)];generalize Int.tmod ticks 3=n at htm htn ⊢;have hd:=Qblf ⟨htn,htm⟩;rw [Q9l (F:=0) (T:=1) (K:=4) (n:=n) (by decide) (by decide) (by decide) (by decide) (by decide) (by decide) (by omega),Option.bind_some];dsimp only;rw [show Qbbb (evs 0 1 4) n [0] (nxt 0 (Qbfh 0 1 n))=dkA n from rfl];generalize dkA n=d at hd ⊢;have hPs:Parts [p.zB,d]:=by
  refine { r:=fun a ha=>?_,s:=fun a ha=>?_,n:=by simp,b:=?_ }
  ·simp only [List.mem_cons,List.not_mem_nil,or_false] at ha;rcases ha with rfl|rfl
   ·exact hp.a
   ·exact hd.r
  ·simp only [List.mem_cons,List.not_mem_nil,or_false] at ha;rcases ha with rfl|rfl
   ·omega
   ·rw [hd.st];omega
  ·rw [Qba3];simp only [List.foldr_cons,List.foldr_nil];have h1:p.zB.zS.toNat≤5:=by omega
   have h2:d.zS.toNat≤5:=by rw [hd.st];omega
   have:=Nat.mul_le_mul h1 (show d.zS.toNat*1≤5 by omega);omega
 obtain ⟨A,T,hS,hPr,hI,hT0⟩:=Qbe9 hPs (by simp);have hA4:A.zS≤4000:=by have:=hPr.st;have:=hPr.n;omega
 have hunl:=hp.un.small (by omega);have hunl' : p.zC.length≤1000:=by
  have:=Qh4 hp.un.so hp.un.rg;omega
 have hErr:errC p.zB [d] p.zC 4=0:=by
  have hs:Qrr p.zB d=false:=by
   unfold Qrr;rw [hd.al,hpal];simp [m0,m1,m4]
  unfold errC errD;rw [List.any_cons,hs,List.any_nil,Qky.2 hp.un]
  rfl
 rw [Q9m hPs hPr (unc:=p.zC) (tick:=4) hunl' hS (by simp [big]),hErr,if_neg (by simp),Option.bind_some];dsimp only;have hPP:RightP ⟨cplA p.zB A T p.zC 4,[A.zS],p.zC,p.zF,p.Tick⟩:=by
  have hst:=hPr.r.st;exact ⟨Qbfi hPr.r hA4,⟨fun x hx=>by
   rw [List.mem_singleton.1 hx];show 0≤A.zS∧A.zS<A.zS+1;omega,List.pairwise_singleton _ _⟩,hp.un,hp.fc,hp.ti,hp.tu,hp.tf⟩
 rw [show (⟨A.zO,A.zS+1,A.zP,Qzb p.zB A T p.zC 4⟩ : Qa)=cplA p.zB A T p.zC 4 from rfl];have hAal:∀ x∈A.zO,x<31:=fun x hx=>by
  obtain ⟨a,ha,hx⟩:=(hPr.ev.me x).1 hx;simp only [List.mem_cons,List.not_mem_nil,or_false] at ha;rcases ha with rfl|rfl
  ·have:=hal5 x hx;omega
  ·rw [hd.al] at hx;simp only [List.mem_cons,List.not_mem_nil,or_false] at hx;omega
 obtain ⟨P,hPd⟩ : ∃ P:Qb,P=⟨cplA p.zB A T p.zC 4,[A.zS],p.zC,p.zF,p.Tick⟩:=⟨_,rfl⟩;rw [← hPd] at hPP ⊢;have hPa:P.zB=cplA p.zB A T p.zC 4:=by rw [hPd]
 have hPf:P.zD=[A.zS]:=by rw [hPd]
 have hPt:P.Tick=4:=by rw [hPd];exact hti
 have hPc:P.zF=p.zF:=by rw [hPd]
 rw [Q6b hPP,Option.bind_some];dsimp only;obtain ⟨rw1,hw1,hw2⟩:=Qbhe hPP (by rw [hPa];exact hAal);obtain ⟨L,hL⟩ : ∃ L,L=Qbn P (solP P).1:=⟨_,rfl⟩;have hsup:(resP P (solP P).1 (solP P).2).zM=supA P L:=by rw [hL];rfl
 have hori:(resP P (solP P).1 (solP P).2).zU=(supP P L).1:=by rw [hL];rfl
 rw [← hL] at hw1 hw2;rw [hsup,hori];have hlen:(((supP P L).1.length:Int) != (supA P L).zS)=false:=by
  show (((supP P L).1.length:Int) != ((supP P L).1.length:Int))=false;simp
 rw [hlen];simp only [bne_self_eq_false,Bool.false_eq_true,if_false,Option.bind_some];rw [hw1,Option.bind_some];dsimp only;rw [if_neg (by simp),Option.bind_some,if_neg (by rw [hw2];simp)];have hsR:=Q27 hPP (L:=L);have hsl:=Qbfm hPP (L:=L);have hnS:nS P≤4096:=by have:=hPP.a.st;unfold nS;omega
 obtain ⟨hs,hst,_⟩:=Qpb hPP (L:=L);refine (Qsm (l:=(supP P L).1) (fun i=>i) (fun _=>false) (fun _=>none) (some true) (by unfold big;omega) hge (fun K j hj=>?_) (fun K=>?_)).trans ?_
 ·have ho:(supP P L).1[j]? = some (supP P L).1[j]:=List.getElem?_eq_getElem hj;obtain ⟨a1,a2⟩:=hst _ (List.getElem_mem hj);have hjs:(j:Int)<(supA P L).zS:=by show (j:Int)<((supP P L).1.length:Int);omega
  try dsimp only
  rw [if_pos (by omega),Qx hj,Option.bind_some];obtain ⟨t1,c1,hst1,_⟩:=Qbfv hPP.a (s:=(supP P L).1[j]) (e:=4) a1.1 a1.2;rw [← hPa,hst1,Option.bind_some]
  try dsimp only
  rw [Qbb3 hsR,if_pos ⟨by omega,hjs⟩,Option.bind_some]
  try dsimp only
  have hon:((outP (supA P L) (j:Int)).map (·.Event)).Pairwise (· < ·):=List.pairwise_map.2 (Q8n hsR _);have honl:((outP (supA P L) (j:Int)).map (·.Event)).length≤131072:=by
   rw [List.length_map];exact Nat.le_trans (List.length_filter_le _ _) hsR.small.2.2.2
  have htf:=fun h4=>Q9p hPP hPt hL ho h4;rw [hPc] at htf;generalize (outP (supA P L) (j:Int)).map (·.Event)=on at hon honl htf ⊢;rw [if_neg (by simp),Qbg1 (by unfold big;omega)];obtain ⟨R,hR1,hR2,hR3⟩:=Q74 hon hp.fc.so (by unfold big;have:=Qh4 hp.fc.so hp.fc.rg;omega);rw [hR1];by_cases h4:0≤Qdl P.zB (supP P L).1[j] 4
  ·rw [decide_eq_true h4,if_pos rfl,Option.bind_some];rcases htf h4 with h5|⟨e,h5,h6⟩
   ·rw [decide_eq_true h5,if_pos rfl,Option.bind_some,if_neg (by simp),if_neg (by simp)]
   ·by_cases h7:(4:Int)∈on
    ·rw [decide_eq_true h7,if_pos rfl,Option.bind_some,if_neg (by simp),if_neg (by simp)]
    ·have hne:R≠[]:=by
      intro hn;have:=(hR3 e).2 ⟨h5,h6⟩;rw [hn] at this;cases this
     have hrl:0<R.length:=List.length_pos_iff.2 hne;rw [decide_eq_false h7,if_neg (by simp),Option.bind_some,Option.bind_some,if_neg (by simp only [beq_iff_eq];omega),if_neg (by simp)]
  ·rw [decide_eq_false h4,if_neg (by simp),Option.bind_some,if_neg (by simp),if_neg (by simp)]
 ·try dsimp only
  rw [if_neg (by omega)];rcases Qbfu hsR with hw|⟨l,hw,hl1,hl2⟩
  ·rw [hw,Option.bind_some];rfl
  ·rw [hw,Option.bind_some]
   try dsimp only
   rw [if_neg (by simp)];refine (Qsm (l:=l) (fun i=>i) (fun _=>false) (fun _=>none) (some true) (by unfold big;omega) hge (fun K j hj=>?_) (fun K=>?_)).trans ?_
   ·obtain ⟨b1,b2,t,b3⟩:=hl2 _ (List.getElem_mem hj);have hz:=AtC.zero hPr hT0 hPP hPf hL b2;have hov:=Q4w hd hPr hI hPP hPa hPf hL l[j] 0 (-1) t 0 hz b3
    try dsimp only
    rw [if_pos (by omega),Qx hj,Option.bind_some,if_neg (by simp)];generalize l[j]=w at b1 hov ⊢;refine Qix (len:=w.length) (fun m (c:Int)=>(c,(m:Int))) (fun m c=>Qbfs n c (w.drop m)=false ∧ -2<c∧c<((m+1:Nat):Int)) (fun _ _=>K (IntKind.wrap .i64 ((j:Int)+1))) ?_ ?_ fuel 0 (-1) (Nat.zero_le _) (by omega) ⟨by simpa using hov,by omega,by omega⟩
    ·rintro K' m c hm ⟨hc1,hc2,hc3⟩ ih
     try dsimp only
     rw [if_pos (by omega),Qx hm,Option.bind_some,Qbhh _ _ (by omega) (by omega),Option.bind_some];rw [List.drop_eq_getElem_cons hm,Qbfs,Bool.or_eq_false_iff,decide_eq_false_iff_not] at hc1;rw [if_neg hc1.1,Qbq (by omega)];have:=Qbjz (e:=w[m]) (n:=m+1) hc2 hc3;exact ih _ ⟨hc1.2,this.1,this.2⟩
    ·rintro K' c ⟨_,_,_⟩
     try dsimp only
     rw [if_neg (by omega)]
   ·try dsimp only
    rw [if_neg (by omega)]
   ·have:l.find? (fun _=>false)=none:=List.find?_eq_none.2 (by simp);rw [this]
 ·have:(supP P L).1.find? (fun _=>false)=none:=List.find?_eq_none.2 (by simp);rw [this]
end Go.Abs
end
section
namespace Go.Proofs
open Go Go.Abs
theorem Qbci {x:Int} (h:wfI .u8 x):0≤x∧x<256:=by
 unfold wfI at h;simp [Lit.wf,IntKind.min,IntKind.max,IntKind.bits,IntKind.signed] at h;omega
theorem Qbhi {g:Qcc} (h:W_50 g):Qbew g:=by
 unfold W_50 W_48 W_47 W_5 at h;obtain ⟨h1,h2,⟨a1,a2,a3,a4,a5⟩,⟨b1,b2,b3,b4,b5⟩,⟨c1,c2,c3,c4,c5⟩,⟨d1,d2,d3,d4,d5⟩,⟨e1,e2,e3,e4,e5⟩⟩:=h;refine ⟨Qbci h1,fun x hx=>?_⟩;simp only [List.mem_cons,List.not_mem_nil,or_false] at hx;rcases hx with rfl|rfl|rfl|rfl|rfl|rfl|rfl|rfl|rfl|rfl|rfl|rfl|rfl|rfl|rfl|rfl|rfl|rfl|rfl|rfl|rfl|rfl|rfl|rfl|rfl<;>exact Qbci (by assumption)
theorem Qbk4 {k:Qba} (h:W_54 k):Q6c k :=
 ⟨Qbci h.1.1,Qbhi h.1.2,Qbci h.2.1,Qbci h.2.2.1,Qbci h.2.2.2⟩
end Go.Proofs
end
section
namespace Go.Abs
open Go Go.ChangeShapes Go.WideShapes Go.ChangeAt Go.RowKit
theorem Qbfx {X:World→Array Value→Prop} (hX:∀ (w w' : World) (args:Array Value),w.heap=w'.heap→X w args→X w' args) {C:Checked} {f:FuncId} {fn:Func} {s:ChangeSpec} {conds:List PathCond} {bt:TypeId} {os:Os} {H:Type} {enc:TypeId×Value→H}
  (own:ownKnob C.prog.godebug=none) (started:os.Started) (noInit:C.prog.inits.idxOf? f=none) (hfn:C.prog.funcs[f]? = some fn)
  (witness:∃ (w:World) (tape:Tape) (i:Input),w.os=os∧(w.forCall tape i).Shaped C.prog∧i.vars=[]∧Input.okWide C.prog (w.forCall tape i) .any w.heap.size f i ∧
   ((s.pre enc C.prog fn conds false (w.forCall tape i).memory i.args∧X (w.forCall tape i).memory i.args)∧sizedMet enc C.prog fn (OpenSpec.ofChange s) false (w.forCall tape i).memory i.args)∧({}:Assume).holds C.prog (lone (Frame.enter C.prog f i.args .normal) [] (w.forCall tape i)))
  (hvars:s.vars=[]) (hres:fn.resultTypes = #[bt]) (hbt:C.prog.underlying bt=some .bool)
  (hl:laidOutB C.prog=true) (hread:∀ t∈fn.params.toList,C.prog.readableRec t=true∧t<C.prog.types.size)
  (hspec:∀ ds:List (DataW H),ds.length=fn.params.size→s.fn H ds={ results:=[.lit (.bool true)],args:=ds })
  (ht:∀ W args,X W args→Tab C.prog ⟨fun _=>0,live W,fun _=>.ext⟩ W) (law:Qbkx C.prog f fn.params.toList) :
  ReturnsInHanded {} C os f .any (fun w args=>(s.pre enc C.prog fn conds false w args∧X w args)∧sizedMet enc C.prog fn (OpenSpec.ofChange s) false w args) (s.post enc C.prog fn false true false false):=by
 refine returnsInHanded_of_change_and hX own started noInit hfn witness ?_;intro W base args ds gs before hval hW hcnd hx1 hx2 hx3;have hW':=hW;obtain ⟨p,q,hA,hV,hps,hfz,hnd⟩:=hW;rw [hvars] at hV;obtain ⟨rfl,rfl⟩ : gs=[]∧q=[]:=by
  cases gs with
  | nil=>exact ⟨rfl,hV⟩
  | cons _ _=>exact hV.elim
 obtain ⟨vs,h1,h2,h3,h4⟩:=law (fun j t u ht hu=>hval j t u (by simpa using ht) (by simpa using hu)) hA;obtain ⟨hb,_,h5⟩:=h4 (fun _=>none) 0;have hlv:∀ b o,live W b o→b<W.heap.size:=by
  intro b o h;simp only [live] at h;obtain ⟨v,hv⟩:=Option.isSome_iff_exists.1 h;unfold World.cell? at hv;split at hv
  ·rename_i hh;exact (Array.getElem?_eq_some_iff.1 hh).1
  ·cases hv
 have hmr:MR ⟨fun _=>0,live W,fun _=>.ext⟩ W (fun _=>none) 0:=⟨fun k b h=>(by cases h),fun b o h=>⟨hlv b o h,fun k h=>by cases h⟩⟩;have h6:=h5 W ⟨fun _=>0,live W,fun _=>.ext⟩ args.toList (ht W args (by assumption)) hmr (fun k cs h=>by cases h) (RAs.of_flat h1) (ons_mono (fun k hk=>absurd hk (Nat.not_lt_zero k)) _ (ons_lt vs h3));refine Calls.mono h6 fun e W' ⟨v,g',he,_,hr,_,_,hf⟩=>?_;subst he;have hv:v = .bool true:=by simpa [RV,RD] using hr
 subst hv;have hbelow:Below W.heap.size W W':=⟨hf.os,hf.tape,hf.output,hf.size,fun k hk=>(hf.old k hk trivial).2.1⟩;have hrl:(Value.bool true).resultList fn.resultTypes.size=[.bool true]:=by rw [hres];rfl
 have hsp:s.fn H (ds++[])={ results:=[.lit (.bool true)],args:=ds }:=by
  rw [List.append_nil];exact hspec ds (by have:=(Q2w hA).1;simpa using this)
 have hlt:∀ p∈before,p.block<W.heap.size:=fun x hx=>hW'.lt x hx;have hst:∀ sp:Nat→Bool,(∀ p∈before,sp p.block=true)→DataW.TrodAll enc C.prog W' 0 sp true fn.params.toList args.toList ds before:=by
  intro sp hsp';have e:p=before:=by rw [hps,List.append_nil]
  subst e;exact Qyy hl hread hA (fun x hx=>hbelow.same (hlt x hx)) hsp'
 refine ⟨_,rfl,ds,[],before,[],before,[],hW',?_,?_,?_,World.keptBut_mono (fun p hp=>⟨hp,.inr (.inl hp)⟩) (hbelow.frame (· ∈ before)),fun h=>by cases h⟩
 ·rw [hsp,hrl,hres];exact ⟨[],[],⟨1,by simp [DataW.trod,Value.cells,hbt]⟩,rfl,rfl⟩
 ·rw [hsp];exact hst _ fun p hp=>by simpa using hlt p hp
 ·rw [hsp,hvars];rfl
end Go.Abs
end
section
namespace Go.Proofs
open Go Go.Abs
theorem Qbfy {P:Program} {W:World} {n1 n2 name:String} {d1 d2:DataW Unit} {k:IntKind} {zs:List Int} {g:Nat} {t e:TypeId} {n:Nat}
  (hg:P.globalNamed name=some g) (hty:(P.globals[g]?).map (·.type)=some t) (ht:P.underlying t=some (.array n e)) (he:P.underlying e=some (.int k)) (hce:P.cellsOf e=1) (hct:P.cellsOf t=n)
  (h:laidMet P [(n1,d1),(n2,d2),(name,Lib.tabData k zs)] W):Lib.TabIs P W name k zs:=by
 obtain ⟨ps,h,_⟩:=h;obtain ⟨g1,t1,c1,f1,p1,q1,_,_,_,_,h,_⟩:=h;obtain ⟨g2,t2,c2,f2,p2,q2,_,_,_,_,h,_⟩:=h;obtain ⟨g',t',cs,fuel,p,q,hg',ht',hvar,hd,_,_⟩:=h;obtain rfl:=Option.some.inj (hg.symm.trans hg');obtain rfl:=Option.some.inj (hty.symm.trans ht');unfold Lib.TabIs;rw [hvar,← Lib.cells_of_tab ht he hce hct hd]
end Go.Proofs
namespace Go.Proofs.YtjoeogboieenlaaGreatDoor
open Go Go.Abs
theorem tabK {W:World} (h:laidMetH Tryz.prog Rows.timedsynthesisKeepsRow.laid W):Tab Tryz.prog ⟨fun _=>0,live W,fun _=>.ext⟩ W:=by
 intro gl hg
 have h0 : Tryz.prog.globalNamed "internal/strconv.uint64pow10" = some 0 := by kernel_rfl
 rw [h0] at hg;obtain rfl:=Option.some.inj hg;have h1:laidMet Tryz.prog Rows.timedsynthesisKeepsRow.laid W:=h
 have h2 : Lib.TabIs Tryz.prog W "internal/strconv.uint64pow10" .u64 Lib.pow10Tab := Qbfy h0 (t := 197) (e := 177) (n := 20) (by kernel_rfl) Tryz.underlying197 Tryz.underlying177 (by kernel_rfl) (by kernel_rfl) h1
 refine ⟨?_,rfl,h2⟩;unfold Lib.TabIs World.var? at h2;rw [h0] at h2;simp only [Option.bind_some] at h2;split at h2
 ·rename_i hh;exact (Array.getElem?_eq_some_iff.1 hh).1
 ·cases h2
end Go.Proofs.YtjoeogboieenlaaGreatDoor
end
