/-
  Part 6 of the proof: see the last text.
-/
import Derived.Test.YtdckcingoapofaaGreatDoorP5
import Derived.Test.YtdckcingoapofaaGreatDoorProg
import Derived.KernelRfl
import Derived.ChangeSame
import Derived.ChangeVars
import Derived.JoinedOf
import Derived.LaidLaws
import Derived.LaidHandle
import Derived.LaidMore
import Derived.SevenTiedAt
set_option linter.unusedVariables false
set_option linter.unusedSimpArgs false
set_option linter.unusedSectionVars false
section
namespace Go.Proofs
open Go Go.Abs
set_option maxRecDepth 100000
def W_22 (x:Int):Prop:=wfI .u8 x
theorem R_22:Q08 Tryz.prog 22 (eI .u8) W_22:=Q8n Tryz.underlying22
def W_23 (x:Int×Int×Int×Int×Int):Prop:=W_22 x.1∧W_22 x.2.1∧W_22 x.2.2.1∧W_22 x.2.2.2.1∧W_22 x.2.2.2.2
theorem R_23:Q08 Tryz.prog 23 (fun p:Int×Int×Int×Int×Int=>[.int .u8 p.1,.int .u8 p.2.1,.int .u8 p.2.2.1,.int .u8 p.2.2.2.1,.int .u8 p.2.2.2.2]) W_23:=by
  intro H enc w base spare held fuel cs x h;obtain ⟨hl,n,hf⟩:=Qbbk (sz:=1) Tryz.underlying23 (by kernel_rfl) h;obtain ⟨y0,h0⟩:=hf 0 (by decide);obtain ⟨a0,w0,r0⟩:=Qe1 (off:=0*1) (sz:=1) R_22 (by kernel_rfl) (fun _=>rfl) h0;obtain ⟨y1,h1⟩:=hf 1 (by decide);obtain ⟨a1,w1,r1⟩:=Qe1 (off:=1*1) (sz:=1) R_22 (by kernel_rfl) (fun _=>rfl) h1;obtain ⟨y2,h2⟩:=hf 2 (by decide);obtain ⟨a2,w2,r2⟩:=Qe1 (off:=2*1) (sz:=1) R_22 (by kernel_rfl) (fun _=>rfl) h2;obtain ⟨y3,h3⟩:=hf 3 (by decide);obtain ⟨a3,w3,r3⟩:=Qe1 (off:=3*1) (sz:=1) R_22 (by kernel_rfl) (fun _=>rfl) h3;obtain ⟨y4,h4⟩:=hf 4 (by decide);obtain ⟨a4,w4,r4⟩:=Qe1 (off:=4*1) (sz:=1) R_22 (by kernel_rfl) (fun _=>rfl) h4;exact ⟨(a0,a1,a2,a3,a4),⟨w0,w1,w2,w3,w4⟩,RDat.all (xs:=(fun p:Int×Int×Int×Int×Int=>[.int .u8 p.1,.int .u8 p.2.1,.int .u8 p.2.2.1,.int .u8 p.2.2.2.1,.int .u8 p.2.2.2.2]) (a0,a1,a2,a3,a4)) (RDat.app r0 rfl (RDat.app r1 rfl (RDat.app r2 rfl (RDat.app r3 rfl r4)))) (hl.trans (by kernel_rfl))⟩
def W_5 (x:Int):Prop:=wfI .u8 x
theorem R_5:Q08 Tryz.prog 5 (eI .u8) W_5:=Q8n Tryz.underlying5
def W_24 (x:Int×Int×Int×Int×Int):Prop:=W_5 x.1∧W_5 x.2.1∧W_5 x.2.2.1∧W_5 x.2.2.2.1∧W_5 x.2.2.2.2
theorem R_24:Q08 Tryz.prog 24 (fun p:Int×Int×Int×Int×Int=>[.int .u8 p.1,.int .u8 p.2.1,.int .u8 p.2.2.1,.int .u8 p.2.2.2.1,.int .u8 p.2.2.2.2]) W_24:=by
  intro H enc w base spare held fuel cs x h;obtain ⟨hl,n,hf⟩:=Qbbk (sz:=1) Tryz.underlying24 (by kernel_rfl) h;obtain ⟨y0,h0⟩:=hf 0 (by decide);obtain ⟨a0,w0,r0⟩:=Qe1 (off:=0*1) (sz:=1) R_5 (by kernel_rfl) (fun _=>rfl) h0;obtain ⟨y1,h1⟩:=hf 1 (by decide);obtain ⟨a1,w1,r1⟩:=Qe1 (off:=1*1) (sz:=1) R_5 (by kernel_rfl) (fun _=>rfl) h1;obtain ⟨y2,h2⟩:=hf 2 (by decide);obtain ⟨a2,w2,r2⟩:=Qe1 (off:=2*1) (sz:=1) R_5 (by kernel_rfl) (fun _=>rfl) h2;obtain ⟨y3,h3⟩:=hf 3 (by decide);obtain ⟨a3,w3,r3⟩:=Qe1 (off:=3*1) (sz:=1) R_5 (by kernel_rfl) (fun _=>rfl) h3;obtain ⟨y4,h4⟩:=hf 4 (by decide);obtain ⟨a4,w4,r4⟩:=Qe1 (off:=4*1) (sz:=1) R_5 (by kernel_rfl) (fun _=>rfl) h4;exact ⟨(a0,a1,a2,a3,a4),⟨w0,w1,w2,w3,w4⟩,RDat.all (xs:=(fun p:Int×Int×Int×Int×Int=>[.int .u8 p.1,.int .u8 p.2.1,.int .u8 p.2.2.1,.int .u8 p.2.2.2.1,.int .u8 p.2.2.2.2]) (a0,a1,a2,a3,a4)) (RDat.app r0 rfl (RDat.app r1 rfl (RDat.app r2 rfl (RDat.app r3 rfl r4)))) (hl.trans (by kernel_rfl))⟩
def W_25 (x:(Int×Int×Int×Int×Int)×(Int×Int×Int×Int×Int)×(Int×Int×Int×Int×Int)×(Int×Int×Int×Int×Int)×(Int×Int×Int×Int×Int)):Prop:=W_24 x.1∧W_24 x.2.1∧W_24 x.2.2.1∧W_24 x.2.2.2.1∧W_24 x.2.2.2.2
theorem R_25:Q08 Tryz.prog 25 (fun p:(Int×Int×Int×Int×Int)×(Int×Int×Int×Int×Int)×(Int×Int×Int×Int×Int)×(Int×Int×Int×Int×Int)×(Int×Int×Int×Int×Int)=>[.int .u8 p.1.1,.int .u8 p.1.2.1,.int .u8 p.1.2.2.1,.int .u8 p.1.2.2.2.1,.int .u8 p.1.2.2.2.2,.int .u8 p.2.1.1,.int .u8 p.2.1.2.1,.int .u8 p.2.1.2.2.1,.int .u8 p.2.1.2.2.2.1,.int .u8 p.2.1.2.2.2.2,.int .u8 p.2.2.1.1,.int .u8 p.2.2.1.2.1,.int .u8 p.2.2.1.2.2.1,.int .u8 p.2.2.1.2.2.2.1,.int .u8 p.2.2.1.2.2.2.2,.int .u8 p.2.2.2.1.1,.int .u8 p.2.2.2.1.2.1,.int .u8 p.2.2.2.1.2.2.1,.int .u8 p.2.2.2.1.2.2.2.1,.int .u8 p.2.2.2.1.2.2.2.2,.int .u8 p.2.2.2.2.1,.int .u8 p.2.2.2.2.2.1,.int .u8 p.2.2.2.2.2.2.1,.int .u8 p.2.2.2.2.2.2.2.1,.int .u8 p.2.2.2.2.2.2.2.2]) W_25:=by
  intro H enc w base spare held fuel cs x h;obtain ⟨hl,n,hf⟩:=Qbbk (sz:=5) Tryz.underlying25 (by kernel_rfl) h;obtain ⟨y0,h0⟩:=hf 0 (by decide);obtain ⟨a0,w0,r0⟩:=Qe1 (off:=0*5) (sz:=5) R_24 (by kernel_rfl) (fun _=>rfl) h0;obtain ⟨y1,h1⟩:=hf 1 (by decide);obtain ⟨a1,w1,r1⟩:=Qe1 (off:=1*5) (sz:=5) R_24 (by kernel_rfl) (fun _=>rfl) h1;obtain ⟨y2,h2⟩:=hf 2 (by decide);obtain ⟨a2,w2,r2⟩:=Qe1 (off:=2*5) (sz:=5) R_24 (by kernel_rfl) (fun _=>rfl) h2;obtain ⟨y3,h3⟩:=hf 3 (by decide);obtain ⟨a3,w3,r3⟩:=Qe1 (off:=3*5) (sz:=5) R_24 (by kernel_rfl) (fun _=>rfl) h3;obtain ⟨y4,h4⟩:=hf 4 (by decide);obtain ⟨a4,w4,r4⟩:=Qe1 (off:=4*5) (sz:=5) R_24 (by kernel_rfl) (fun _=>rfl) h4;exact ⟨(a0,a1,a2,a3,a4),⟨w0,w1,w2,w3,w4⟩,RDat.all (xs:=(fun p:(Int×Int×Int×Int×Int)×(Int×Int×Int×Int×Int)×(Int×Int×Int×Int×Int)×(Int×Int×Int×Int×Int)×(Int×Int×Int×Int×Int)=>[.int .u8 p.1.1,.int .u8 p.1.2.1,.int .u8 p.1.2.2.1,.int .u8 p.1.2.2.2.1,.int .u8 p.1.2.2.2.2,.int .u8 p.2.1.1,.int .u8 p.2.1.2.1,.int .u8 p.2.1.2.2.1,.int .u8 p.2.1.2.2.2.1,.int .u8 p.2.1.2.2.2.2,.int .u8 p.2.2.1.1,.int .u8 p.2.2.1.2.1,.int .u8 p.2.2.1.2.2.1,.int .u8 p.2.2.1.2.2.2.1,.int .u8 p.2.2.1.2.2.2.2,.int .u8 p.2.2.2.1.1,.int .u8 p.2.2.2.1.2.1,.int .u8 p.2.2.2.1.2.2.1,.int .u8 p.2.2.2.1.2.2.2.1,.int .u8 p.2.2.2.1.2.2.2.2,.int .u8 p.2.2.2.2.1,.int .u8 p.2.2.2.2.2.1,.int .u8 p.2.2.2.2.2.2.1,.int .u8 p.2.2.2.2.2.2.2.1,.int .u8 p.2.2.2.2.2.2.2.2]) (a0,a1,a2,a3,a4)) (RDat.app r0 rfl (RDat.app r1 rfl (RDat.app r2 rfl (RDat.app r3 rfl r4)))) (hl.trans (by kernel_rfl))⟩
def W_27 (x:Qs):Prop:=W_5 x.zF∧W_5 x.Marks∧W_25 x.To
theorem R_27:Q08 Tryz.prog 27 Qna W_27:=by
  intro H enc w base spare held fuel cs x h;obtain ⟨hl,n,hf⟩:=Q8o Tryz.underlying27 h;obtain ⟨y0,h0⟩:=hf 0 _ rfl;obtain ⟨a0,w0,r0⟩:=Qe1 (off:=0) (sz:=1) R_5 (by kernel_rfl) (fun _=>rfl) h0;obtain ⟨y1,h1⟩:=hf 1 _ rfl;obtain ⟨a1,w1,r1⟩:=Qe1 (off:=1) (sz:=1) R_5 (by kernel_rfl) (fun _=>rfl) h1;obtain ⟨y2,h2⟩:=hf 2 _ rfl;obtain ⟨a2,w2,r2⟩:=Qe1 (off:=2) (sz:=25) R_25 (by kernel_rfl) (fun _=>rfl) h2;exact ⟨⟨a0,a1,a2⟩,⟨w0,w1,w2⟩,RDat.all (xs:=Qna ⟨a0,a1,a2⟩) (RDat.app r0 rfl (RDat.app r1 rfl r2)) (hl.trans (by kernel_rfl))⟩
def W_28 (x:Qs×Qs×Qs):Prop:=W_27 x.1∧W_27 x.2.1∧W_27 x.2.2
theorem R_28:Q08 Tryz.prog 28 (fun p:Qs×Qs×Qs=>[.int .u8 p.1.zF,.int .u8 p.1.Marks,.int .u8 p.1.To.1.1,.int .u8 p.1.To.1.2.1,.int .u8 p.1.To.1.2.2.1,.int .u8 p.1.To.1.2.2.2.1,.int .u8 p.1.To.1.2.2.2.2,.int .u8 p.1.To.2.1.1,.int .u8 p.1.To.2.1.2.1,.int .u8 p.1.To.2.1.2.2.1,.int .u8 p.1.To.2.1.2.2.2.1,.int .u8 p.1.To.2.1.2.2.2.2,.int .u8 p.1.To.2.2.1.1,.int .u8 p.1.To.2.2.1.2.1,.int .u8 p.1.To.2.2.1.2.2.1,.int .u8 p.1.To.2.2.1.2.2.2.1,.int .u8 p.1.To.2.2.1.2.2.2.2,.int .u8 p.1.To.2.2.2.1.1,.int .u8 p.1.To.2.2.2.1.2.1,.int .u8 p.1.To.2.2.2.1.2.2.1,.int .u8 p.1.To.2.2.2.1.2.2.2.1,.int .u8 p.1.To.2.2.2.1.2.2.2.2,.int .u8 p.1.To.2.2.2.2.1,.int .u8 p.1.To.2.2.2.2.2.1,.int .u8 p.1.To.2.2.2.2.2.2.1,.int .u8 p.1.To.2.2.2.2.2.2.2.1,.int .u8 p.1.To.2.2.2.2.2.2.2.2,.int .u8 p.2.1.zF,.int .u8 p.2.1.Marks,.int .u8 p.2.1.To.1.1,.int .u8 p.2.1.To.1.2.1,.int .u8 p.2.1.To.1.2.2.1,.int .u8 p.2.1.To.1.2.2.2.1,.int .u8 p.2.1.To.1.2.2.2.2,.int .u8 p.2.1.To.2.1.1,.int .u8 p.2.1.To.2.1.2.1,.int .u8 p.2.1.To.2.1.2.2.1,.int .u8 p.2.1.To.2.1.2.2.2.1,.int .u8 p.2.1.To.2.1.2.2.2.2,.int .u8 p.2.1.To.2.2.1.1,.int .u8 p.2.1.To.2.2.1.2.1,.int .u8 p.2.1.To.2.2.1.2.2.1,.int .u8 p.2.1.To.2.2.1.2.2.2.1,.int .u8 p.2.1.To.2.2.1.2.2.2.2,.int .u8 p.2.1.To.2.2.2.1.1,.int .u8 p.2.1.To.2.2.2.1.2.1,.int .u8 p.2.1.To.2.2.2.1.2.2.1,.int .u8 p.2.1.To.2.2.2.1.2.2.2.1,.int .u8 p.2.1.To.2.2.2.1.2.2.2.2,.int .u8 p.2.1.To.2.2.2.2.1,.int .u8 p.2.1.To.2.2.2.2.2.1,.int .u8 p.2.1.To.2.2.2.2.2.2.1,.int .u8 p.2.1.To.2.2.2.2.2.2.2.1,.int .u8 p.2.1.To.2.2.2.2.2.2.2.2,.int .u8 p.2.2.zF,.int .u8 p.2.2.Marks,.int .u8 p.2.2.To.1.1,.int .u8 p.2.2.To.1.2.1,.int .u8 p.2.2.To.1.2.2.1,.int .u8 p.2.2.To.1.2.2.2.1,.int .u8 p.2.2.To.1.2.2.2.2,.int .u8 p.2.2.To.2.1.1,.int .u8 p.2.2.To.2.1.2.1,.int .u8 p.2.2.To.2.1.2.2.1,.int .u8 p.2.2.To.2.1.2.2.2.1,.int .u8 p.2.2.To.2.1.2.2.2.2,.int .u8 p.2.2.To.2.2.1.1,.int .u8 p.2.2.To.2.2.1.2.1,.int .u8 p.2.2.To.2.2.1.2.2.1,.int .u8 p.2.2.To.2.2.1.2.2.2.1,.int .u8 p.2.2.To.2.2.1.2.2.2.2,.int .u8 p.2.2.To.2.2.2.1.1,.int .u8 p.2.2.To.2.2.2.1.2.1,.int .u8 p.2.2.To.2.2.2.1.2.2.1,.int .u8 p.2.2.To.2.2.2.1.2.2.2.1,.int .u8 p.2.2.To.2.2.2.1.2.2.2.2,.int .u8 p.2.2.To.2.2.2.2.1,.int .u8 p.2.2.To.2.2.2.2.2.1,.int .u8 p.2.2.To.2.2.2.2.2.2.1,.int .u8 p.2.2.To.2.2.2.2.2.2.2.1,.int .u8 p.2.2.To.2.2.2.2.2.2.2.2]) W_28:=by
  intro H enc w base spare held fuel cs x h;obtain ⟨hl,n,hf⟩:=Qbbk (sz:=27) Tryz.underlying28 (by kernel_rfl) h;obtain ⟨y0,h0⟩:=hf 0 (by decide);obtain ⟨a0,w0,r0⟩:=Qe1 (off:=0*27) (sz:=27) R_27 (by kernel_rfl) (fun _=>rfl) h0;obtain ⟨y1,h1⟩:=hf 1 (by decide);obtain ⟨a1,w1,r1⟩:=Qe1 (off:=1*27) (sz:=27) R_27 (by kernel_rfl) (fun _=>rfl) h1;obtain ⟨y2,h2⟩:=hf 2 (by decide);obtain ⟨a2,w2,r2⟩:=Qe1 (off:=2*27) (sz:=27) R_27 (by kernel_rfl) (fun _=>rfl) h2;exact ⟨(a0,a1,a2),⟨w0,w1,w2⟩,RDat.all (xs:=(fun p:Qs×Qs×Qs=>[.int .u8 p.1.zF,.int .u8 p.1.Marks,.int .u8 p.1.To.1.1,.int .u8 p.1.To.1.2.1,.int .u8 p.1.To.1.2.2.1,.int .u8 p.1.To.1.2.2.2.1,.int .u8 p.1.To.1.2.2.2.2,.int .u8 p.1.To.2.1.1,.int .u8 p.1.To.2.1.2.1,.int .u8 p.1.To.2.1.2.2.1,.int .u8 p.1.To.2.1.2.2.2.1,.int .u8 p.1.To.2.1.2.2.2.2,.int .u8 p.1.To.2.2.1.1,.int .u8 p.1.To.2.2.1.2.1,.int .u8 p.1.To.2.2.1.2.2.1,.int .u8 p.1.To.2.2.1.2.2.2.1,.int .u8 p.1.To.2.2.1.2.2.2.2,.int .u8 p.1.To.2.2.2.1.1,.int .u8 p.1.To.2.2.2.1.2.1,.int .u8 p.1.To.2.2.2.1.2.2.1,.int .u8 p.1.To.2.2.2.1.2.2.2.1,.int .u8 p.1.To.2.2.2.1.2.2.2.2,.int .u8 p.1.To.2.2.2.2.1,.int .u8 p.1.To.2.2.2.2.2.1,.int .u8 p.1.To.2.2.2.2.2.2.1,.int .u8 p.1.To.2.2.2.2.2.2.2.1,.int .u8 p.1.To.2.2.2.2.2.2.2.2,.int .u8 p.2.1.zF,.int .u8 p.2.1.Marks,.int .u8 p.2.1.To.1.1,.int .u8 p.2.1.To.1.2.1,.int .u8 p.2.1.To.1.2.2.1,.int .u8 p.2.1.To.1.2.2.2.1,.int .u8 p.2.1.To.1.2.2.2.2,.int .u8 p.2.1.To.2.1.1,.int .u8 p.2.1.To.2.1.2.1,.int .u8 p.2.1.To.2.1.2.2.1,.int .u8 p.2.1.To.2.1.2.2.2.1,.int .u8 p.2.1.To.2.1.2.2.2.2,.int .u8 p.2.1.To.2.2.1.1,.int .u8 p.2.1.To.2.2.1.2.1,.int .u8 p.2.1.To.2.2.1.2.2.1,.int .u8 p.2.1.To.2.2.1.2.2.2.1,.int .u8 p.2.1.To.2.2.1.2.2.2.2,.int .u8 p.2.1.To.2.2.2.1.1,.int .u8 p.2.1.To.2.2.2.1.2.1,.int .u8 p.2.1.To.2.2.2.1.2.2.1,.int .u8 p.2.1.To.2.2.2.1.2.2.2.1,.int .u8 p.2.1.To.2.2.2.1.2.2.2.2,.int .u8 p.2.1.To.2.2.2.2.1,.int .u8 p.2.1.To.2.2.2.2.2.1,.int .u8 p.2.1.To.2.2.2.2.2.2.1,.int .u8 p.2.1.To.2.2.2.2.2.2.2.1,.int .u8 p.2.1.To.2.2.2.2.2.2.2.2,.int .u8 p.2.2.zF,.int .u8 p.2.2.Marks,.int .u8 p.2.2.To.1.1,.int .u8 p.2.2.To.1.2.1,.int .u8 p.2.2.To.1.2.2.1,.int .u8 p.2.2.To.1.2.2.2.1,.int .u8 p.2.2.To.1.2.2.2.2,.int .u8 p.2.2.To.2.1.1,.int .u8 p.2.2.To.2.1.2.1,.int .u8 p.2.2.To.2.1.2.2.1,.int .u8 p.2.2.To.2.1.2.2.2.1,.int .u8 p.2.2.To.2.1.2.2.2.2,.int .u8 p.2.2.To.2.2.1.1,.int .u8 p.2.2.To.2.2.1.2.1,.int .u8 p.2.2.To.2.2.1.2.2.1,.int .u8 p.2.2.To.2.2.1.2.2.2.1,.int .u8 p.2.2.To.2.2.1.2.2.2.2,.int .u8 p.2.2.To.2.2.2.1.1,.int .u8 p.2.2.To.2.2.2.1.2.1,.int .u8 p.2.2.To.2.2.2.1.2.2.1,.int .u8 p.2.2.To.2.2.2.1.2.2.2.1,.int .u8 p.2.2.To.2.2.2.1.2.2.2.2,.int .u8 p.2.2.To.2.2.2.2.1,.int .u8 p.2.2.To.2.2.2.2.2.1,.int .u8 p.2.2.To.2.2.2.2.2.2.1,.int .u8 p.2.2.To.2.2.2.2.2.2.2.1,.int .u8 p.2.2.To.2.2.2.2.2.2.2.2]) (a0,a1,a2)) (RDat.app r0 rfl (RDat.app r1 rfl r2)) (hl.trans (by kernel_rfl))⟩
def W_30 (x:Qbq):Prop:=W_23 x.Sets∧W_28 x.Graphs
theorem R_30:Q08 Tryz.prog 30 Qnb W_30:=by
  intro H enc w base spare held fuel cs x h;obtain ⟨hl,n,hf⟩:=Q8o Tryz.underlying30 h;obtain ⟨y0,h0⟩:=hf 0 _ rfl;obtain ⟨a0,w0,r0⟩:=Qe1 (off:=0) (sz:=5) R_23 (by kernel_rfl) (fun _=>rfl) h0;obtain ⟨y1,h1⟩:=hf 1 _ rfl;obtain ⟨a1,w1,r1⟩:=Qe1 (off:=5) (sz:=81) R_28 (by kernel_rfl) (fun _=>rfl) h1;exact ⟨⟨a0,a1⟩,⟨w0,w1⟩,RDat.all (xs:=Qnb ⟨a0,a1⟩) (RDat.app r0 rfl r1) (hl.trans (by kernel_rfl))⟩
theorem A_30:Q6w Tryz.prog 30 (fun (a:Qbq)=>.agg [.d (.int .u8 a.Sets.1),.d (.int .u8 a.Sets.2.1),.d (.int .u8 a.Sets.2.2.1),.d (.int .u8 a.Sets.2.2.2.1),.d (.int .u8 a.Sets.2.2.2.2),.d (.int .u8 a.Graphs.1.zF),.d (.int .u8 a.Graphs.1.Marks),.d (.int .u8 a.Graphs.1.To.1.1),.d (.int .u8 a.Graphs.1.To.1.2.1),.d (.int .u8 a.Graphs.1.To.1.2.2.1),.d (.int .u8 a.Graphs.1.To.1.2.2.2.1),.d (.int .u8 a.Graphs.1.To.1.2.2.2.2),.d (.int .u8 a.Graphs.1.To.2.1.1),.d (.int .u8 a.Graphs.1.To.2.1.2.1),.d (.int .u8 a.Graphs.1.To.2.1.2.2.1),.d (.int .u8 a.Graphs.1.To.2.1.2.2.2.1),.d (.int .u8 a.Graphs.1.To.2.1.2.2.2.2),.d (.int .u8 a.Graphs.1.To.2.2.1.1),.d (.int .u8 a.Graphs.1.To.2.2.1.2.1),.d (.int .u8 a.Graphs.1.To.2.2.1.2.2.1),.d (.int .u8 a.Graphs.1.To.2.2.1.2.2.2.1),.d (.int .u8 a.Graphs.1.To.2.2.1.2.2.2.2),.d (.int .u8 a.Graphs.1.To.2.2.2.1.1),.d (.int .u8 a.Graphs.1.To.2.2.2.1.2.1),.d (.int .u8 a.Graphs.1.To.2.2.2.1.2.2.1),.d (.int .u8 a.Graphs.1.To.2.2.2.1.2.2.2.1),.d (.int .u8 a.Graphs.1.To.2.2.2.1.2.2.2.2),.d (.int .u8 a.Graphs.1.To.2.2.2.2.1),.d (.int .u8 a.Graphs.1.To.2.2.2.2.2.1),.d (.int .u8 a.Graphs.1.To.2.2.2.2.2.2.1),.d (.int .u8 a.Graphs.1.To.2.2.2.2.2.2.2.1),.d (.int .u8 a.Graphs.1.To.2.2.2.2.2.2.2.2),.d (.int .u8 a.Graphs.2.1.zF),.d (.int .u8 a.Graphs.2.1.Marks),.d (.int .u8 a.Graphs.2.1.To.1.1),.d (.int .u8 a.Graphs.2.1.To.1.2.1),.d (.int .u8 a.Graphs.2.1.To.1.2.2.1),.d (.int .u8 a.Graphs.2.1.To.1.2.2.2.1),.d (.int .u8 a.Graphs.2.1.To.1.2.2.2.2),.d (.int .u8 a.Graphs.2.1.To.2.1.1),.d (.int .u8 a.Graphs.2.1.To.2.1.2.1),.d (.int .u8 a.Graphs.2.1.To.2.1.2.2.1),.d (.int .u8 a.Graphs.2.1.To.2.1.2.2.2.1),.d (.int .u8 a.Graphs.2.1.To.2.1.2.2.2.2),.d (.int .u8 a.Graphs.2.1.To.2.2.1.1),.d (.int .u8 a.Graphs.2.1.To.2.2.1.2.1),.d (.int .u8 a.Graphs.2.1.To.2.2.1.2.2.1),.d (.int .u8 a.Graphs.2.1.To.2.2.1.2.2.2.1),.d (.int .u8 a.Graphs.2.1.To.2.2.1.2.2.2.2),.d (.int .u8 a.Graphs.2.1.To.2.2.2.1.1),.d (.int .u8 a.Graphs.2.1.To.2.2.2.1.2.1),.d (.int .u8 a.Graphs.2.1.To.2.2.2.1.2.2.1),.d (.int .u8 a.Graphs.2.1.To.2.2.2.1.2.2.2.1),.d (.int .u8 a.Graphs.2.1.To.2.2.2.1.2.2.2.2),.d (.int .u8 a.Graphs.2.1.To.2.2.2.2.1),.d (.int .u8 a.Graphs.2.1.To.2.2.2.2.2.1),.d (.int .u8 a.Graphs.2.1.To.2.2.2.2.2.2.1),.d (.int .u8 a.Graphs.2.1.To.2.2.2.2.2.2.2.1),.d (.int .u8 a.Graphs.2.1.To.2.2.2.2.2.2.2.2),.d (.int .u8 a.Graphs.2.2.zF),.d (.int .u8 a.Graphs.2.2.Marks),.d (.int .u8 a.Graphs.2.2.To.1.1),.d (.int .u8 a.Graphs.2.2.To.1.2.1),.d (.int .u8 a.Graphs.2.2.To.1.2.2.1),.d (.int .u8 a.Graphs.2.2.To.1.2.2.2.1),.d (.int .u8 a.Graphs.2.2.To.1.2.2.2.2),.d (.int .u8 a.Graphs.2.2.To.2.1.1),.d (.int .u8 a.Graphs.2.2.To.2.1.2.1),.d (.int .u8 a.Graphs.2.2.To.2.1.2.2.1),.d (.int .u8 a.Graphs.2.2.To.2.1.2.2.2.1),.d (.int .u8 a.Graphs.2.2.To.2.1.2.2.2.2),.d (.int .u8 a.Graphs.2.2.To.2.2.1.1),.d (.int .u8 a.Graphs.2.2.To.2.2.1.2.1),.d (.int .u8 a.Graphs.2.2.To.2.2.1.2.2.1),.d (.int .u8 a.Graphs.2.2.To.2.2.1.2.2.2.1),.d (.int .u8 a.Graphs.2.2.To.2.2.1.2.2.2.2),.d (.int .u8 a.Graphs.2.2.To.2.2.2.1.1),.d (.int .u8 a.Graphs.2.2.To.2.2.2.1.2.1),.d (.int .u8 a.Graphs.2.2.To.2.2.2.1.2.2.1),.d (.int .u8 a.Graphs.2.2.To.2.2.2.1.2.2.2.1),.d (.int .u8 a.Graphs.2.2.To.2.2.2.1.2.2.2.2),.d (.int .u8 a.Graphs.2.2.To.2.2.2.2.1),.d (.int .u8 a.Graphs.2.2.To.2.2.2.2.2.1),.d (.int .u8 a.Graphs.2.2.To.2.2.2.2.2.2.1),.d (.int .u8 a.Graphs.2.2.To.2.2.2.2.2.2.2.1),.d (.int .u8 a.Graphs.2.2.To.2.2.2.2.2.2.2.2)]) W_30:=Qbis R_30 (.inl ⟨_,Tryz.underlying30⟩)
end Go.Proofs
end
section
namespace Go.Abs
set_option maxRecDepth 100000
theorem Qbck:Qja=some true:=by kernel_rfl
end Go.Abs
end
section
namespace Go.Abs
open Go
theorem Qdb {X R:Type} {F:(X→Option R)→X→Option R} (I:X→Prop) (m:X→Nat) (Q:X→Option R→Prop)
  (step:∀ (k:X→Option R) (x:X),I x→(∀ y,I y→m y<m x→Q y (k y))→Q x (F k x)):∀ (fuel:Nat) (x:X),I x→m x<fuel→Q x (Qbx F fuel x)
 | 0,x,_,h=>absurd h (Nat.not_lt_zero _)
 | fuel+1,x,hi,h=>step _ x hi fun y hy hm=>Qdb I m Q step fuel y hy (by omega)
theorem Q2g {X R:Type} {F:(X→Option R)→X→Option R} {fuel:Nat} {x:X} (I:X→Prop) (m:X→Nat) (q:Option R) (hi:I x) (hm:m x<fuel)
  (step:∀ (k:X→Option R) (x:X),I x→(∀ y,I y→m y<m x→k y=q)→F k x=q):Qbx F fuel x=q :=
 Qdb I m (fun _ r=>r=q) step fuel x hi hm
theorem Qt0 {x:Int} (h1 : -9223372036854775808≤x) (h2:x≤9223372036854775807):IntKind.wrap .i64 x=x:=by
 simp [IntKind.wrap,IntKind.bits,IntKind.signed];omega
theorem Qbe0 {x:Int} (h1:0≤x) (h2:x<256):IntKind.wrap .u8 x=x:=by
 simp [IntKind.wrap,IntKind.bits,IntKind.signed];omega
theorem Qbi {n:Nat} (h:n<9223372036854775807):IntKind.wrap .i64 ((n:Int)+1)=((n+1:Nat):Int):=by
 grind [Qt0]
theorem Q6 {α:Type} {l:List α} {n:Nat} (h:n<l.length):getO l (n:Int)=some l[n]:=by
 simp [getO,h]
theorem Q38 {α:Type} {l:List α} {i:Int} {x:α}:getO l i=some x↔0≤i∧l[i.toNat]? = some x:=by
 simp_all [getO,reduceCtorEq,false_iff,not_and,absurd]
theorem Qck {α:Type} {l m:List α} (h:l.length+m.length≤lim):appO l m=some (l++m):=by
 unfold appO;rw [if_pos h]
theorem Q8p {α:Type} {s t:List α} {k:Nat} (hs:k<s.length) (ht:k<t.length) (h:s.take k=t.take k) (he:s[k]=t[k]):s.take (k+1)=t.take (k+1):=by
 grind [List.take_add_one,List.getElem?_eq_getElem]
theorem Qkj {R:Type} {F:(Int→Option R)→Int→Option R} {len fuel:Nat} (G:Nat→Option R) (hf:len<fuel)
  (step:∀ (k:Int→Option R) (n:Nat),n<len→k ((n+1:Nat):Int)=G (n+1)→F k (n:Int)=G n) (last:∀ k:Int→Option R,F k (len:Int)=G len):Qbx F fuel 0=G 0:=by
 have:=Qdb (F:=F) (fun x=>∃ n:Nat,x=(n:Int)∧n≤len) (fun x=>len-x.toNat) (fun x r=>∀ n:Nat,x=(n:Int)→r=G n) (fun k x hx ih=>by
  obtain ⟨n,rfl,hn⟩:=hx;intro m hm;obtain rfl:n=m:=by omega
  by_cases h:n<len
  ·exact step k n h (ih _ ⟨n+1,rfl,by omega⟩ (by omega) (n+1) rfl)
  grind) fuel 0 ⟨0,rfl,by omega⟩ (by simpa using hf)
 exact this 0 rfl
theorem Qz5 {n:Nat} (h0:0<n) (h:n<9223372036854775807):IntKind.wrap .i64 ((n:Int)-1)=((n-1:Nat):Int):=by
 grind [Qt0]
theorem Qbgo {X S R:Type} {F:(X→Option R)→X→Option R} {len:Nat} (mk:Nat→S→X) (G:Nat→S→Option R)
  (step:∀ (k:X→Option R) (n:Nat) (s:S),n<len→(∀ s',k (mk (n+1) s')=G (n+1) s')→F k (mk n s)=G n s) (last:∀ (k:X→Option R) (s:S),F k (mk len s)=G len s) :
  ∀ (fuel n:Nat) (s:S),n≤len→len-n<fuel→Qbx F fuel (mk n s)=G n s
 | 0,n,s,_,h=>by omega
 | fuel+1,n,s,hn,h=>by
  show F (Qbx F fuel) (mk n s)=_;by_cases hlt:n<len
  ·exact step _ n s hlt fun s'=>Qbgo mk G step last fuel (n+1) s' (by omega) (by omega)
  grind
theorem Qbhl {i j:Nat} (hi:i<1000000000000) (hj:j<1000000000000):IntKind.wrap .i64 (Int.fdiv (IntKind.wrap .u64 (IntKind.wrap .i64 ((i:Int)+j))) (2 ^ (min (Int.toNat 1) (IntKind.bits .u64))))=(((i+j) / 2:Nat):Int):=by
 grind [Go.IntKind.wrap,Qt0,Go.IntKind.bits,Go.IntKind.signed,Min.min,Int.toNat,Int.fdiv_eq_ediv_of_nonneg]
theorem Q2h {α:Type} {l:List α} {i j:Nat} (h:i≤j) (hj:j≤l.length):slcO l (i:Int) (j:Int)=some ((l.take j).drop i):=by
 simp [slcO,h,hj]
theorem Qbcl:∀ {l m:List Int},l.Pairwise (· < ·)→m.Pairwise (· < ·)→(∀ x,x∈l↔x∈m)→l=m
 | l,m,h1,h2,h=>by
  have n1:l.Nodup:=h1.imp fun h=>by omega
  have n2:m.Nodup:=h2.imp fun h=>by omega
  grind [List.perm_ext_iff_of_nodup,List.Perm.eq_of_pairwise]
section
variable {α:Type} {p:α→Bool}
theorem Q09:∀ {l:List α},l.Pairwise (fun a b=>p b=true→p a=true)→∀ (n:Nat) (h:n<l.length),p l[n]=true↔n<(l.filter p).length
 | [],_,n,h=>by simp at h
 | x::xs,hs,n,h=>by
  obtain ⟨h1,h2⟩:=List.pairwise_cons.1 hs;cases n with
  | zero =>
   cases hx:p x with
   | true=>simp [hx]
   | false =>
    have:xs.filter p=[]:=List.filter_eq_nil_iff.2 fun y hy hp=>by have:=h1 y hy hp;rw [hx] at this;cases this
    simp [hx,this]
  | succ n =>
   have ih:=Q09 h2 n (by simpa using h);cases hx:p x with
   | true=>simp [hx,ih]
   | false =>
    have:xs.filter p=[]:=List.filter_eq_nil_iff.2 fun y hy hp=>by have:=h1 y hy hp;rw [hx] at this;cases this
    rw [this] at ih;simp [hx,this] at ih ⊢;exact ih
end
theorem Ql3 {X S R:Type} {F:(X→Option R)→X→Option R} {len:Nat} (mk:Nat→S→X) (I:Nat→S→Prop) (G:Nat→S→Option R)
  (step:∀ (k:X→Option R) (n:Nat) (s:S),n<len→I n s→(∀ s',I (n+1) s'→k (mk (n+1) s')=G (n+1) s')→F k (mk n s)=G n s) (last:∀ (k:X→Option R) (s:S),I len s→F k (mk len s)=G len s) :
  ∀ (fuel n:Nat) (s:S),n≤len→len-n<fuel→I n s→Qbx F fuel (mk n s)=G n s
 | 0,n,s,_,h,_=>by omega
 | fuel+1,n,s,hn,h,hi=>by
  show F (Qbx F fuel) (mk n s)=_;by_cases hlt:n<len
  ·exact step _ n s hlt hi fun s' hi'=>Ql3 mk I G step last fuel (n+1) s' (by omega) (by omega) hi'
  grind
theorem Qjj:∀ {l:List Int} {a b:Int},l.Pairwise (· < ·)→(∀ x∈l,a≤x∧x<b)→l.length≤(b-a).toNat
 | [],_,_,_,_=>by simp
 | x::xs,a,b,h,hr=>by
  obtain ⟨h1,h2⟩:=List.pairwise_cons.1 h;have:=Qjj (a:=x+1) (b:=b) h2 fun y hy=>⟨by have:=h1 y hy;omega,(hr y (by simp [hy])).2⟩;have:=hr x (by simp)
  grind
end Go.Abs
end
section
namespace Go.Abs
abbrev big : Nat := 1000000000000
def small (a : Qa) : Prop := a.zB.length < big ∧ a.zC.length < big ∧ a.zD.length < big
end Go.Abs
end
section
namespace Go.Abs
open Go
def Qes (n:Int):Option Int→List Int→Int
 | _,[]=>0
 | p,x::xs=>if x<0∨x≥n then 2 else if ∃ y,p=some y∧x≤y then 5 else Qes n (some x) xs
def Qkp (al:List Int) (st:Int):Option Qb→List Qb→Int
 | _,[]=>0
 | p,x::xs=>if x.From<0∨x.From≥st∨x.To<0∨x.To≥st then 2 else if x.Event∉al then 9 else if ∃ y,p=some y∧(x.From<y.From∨x.From=y.From∧x.Event≤y.Event) then 5 else Qkp al st (some x) xs
def Qhk (a:Qa):Int :=
 if Qes 32 none a.zB≠0 then Qes 32 none a.zB else if a.zF<0 then 2 else if a.zF>4096 then 3 else
 if Qes a.zF none a.zC≠0 then Qes a.zF none a.zC else Qkp a.zB a.zF none a.zD
def ahead {α:Type} (l:List α) (n:Nat):Option α:=if n=0 then none else l[n-1]?
theorem Qla {α:Type} (l:List α):ahead l 0=none:=rfl
theorem Q5w {α:Type} (l:List α) {n:Nat} (h:n<l.length):ahead l (n+1)=some l[n]:=by simp [ahead,h]
theorem Qz6 {α:Type} (l:List α) {n:Nat} (h0:0<n) (h:n≤l.length):ahead l n=some (l[n-1]'(by omega)):=by
 simp [ahead,show n≠0 from by omega,show n-1<l.length from by omega]
theorem Qwj {n:Int} {l:List Int} {k:Nat} (h:k<l.length):Qes n (ahead l k) (l.drop k)=if l[k]<0∨l[k]≥n then 2 else if ∃ y,ahead l k=some y∧l[k]≤y then 5 else Qes n (ahead l (k+1)) (l.drop (k+1)):=by
 rw [List.drop_eq_getElem_cons h,Qes,Q5w l h]
theorem Q6x {al:List Int} {n:Int} {l:List Qb} {k:Nat} (h:k<l.length):Qkp al n (ahead l k) (l.drop k)=if l[k].From<0∨l[k].From≥n∨l[k].To<0∨l[k].To≥n then 2 else if l[k].Event∉al then 9 else if ∃ y,ahead l k=some y∧(l[k].From<y.From∨l[k].From=y.From∧l[k].Event≤y.Event) then 5 else Qkp al n (ahead l (k+1)) (l.drop (k+1)):=by
 rw [List.drop_eq_getElem_cons h,Qkp,Q5w l h]
theorem Q39 {l:List Int} {n:Int} (hl:l.length<big):Qhg l n=some (Qes n none l):=by
 unfold Qhg Qcw;refine (Qkj (len:=l.length) (fun k=>some (Qes n (ahead l k) (l.drop k))) (by unfold Q5;unfold big at hl;omega) ?_ ?_).trans (by simp [Qla])
 ·intro k i hi ih;have hb:i<1000000000000:=by unfold big at hl;omega
  rw [Qwj hi]
  try dsimp only
  rw [if_pos (by omega),Q6 hi,Qbi (by omega),ih];simp only [Option.bind_some];by_cases h1:l[i]<0
  ·simp [h1]
  ·by_cases h2:l[i]≥n
   ·simp [h1,h2]
   ·by_cases h0:0<i
    ·rw [Qz5 h0 (by omega),Q6 (by omega:i-1<l.length),Qz6 l h0 (by omega)];by_cases h3:l[i]≤l[i-1]<;>simp [h1,h2,h3,h0]
    ·obtain rfl:i=0:=by omega
     simp [h1,h2,Qla]
 ·intro k;simp [Qes]
theorem Qbgp {l:List Int} {v:Int} (hl:l.length<big):Qir l v=some (if v∈l then (l.idxOf v:Int) else -1):=by
 unfold Qir Qd8;refine (Qkj (len:=l.length) (fun k=>some (if v∈l.drop k then ((k+(l.drop k).idxOf v:Nat):Int) else -1)) (by unfold Q5;unfold big at hl;omega) ?_ ?_).trans (by simp)
 ·intro k i hi ih;have hb:i<1000000000000:=by unfold big at hl;omega
  try dsimp only
  rw [if_pos (by omega),Q6 hi,Qbi (by omega),ih,List.drop_eq_getElem_cons hi];simp only [Option.bind_some,List.mem_cons,List.idxOf_cons];by_cases h:v=l[i]
  ·simp [← h]
  ·have:¬ l[i]=v:=fun e=>h e.symm;have hbq:(l[i]==v)=false:=by simp [this]
   by_cases h2:v∈l.drop (i+1)<;>simp [h,h2,hbq];omega
 ·intro k;simp
theorem Q93 {l:List Int} {v:Int} (hl:l.length<big):Qci l v=some (decide (v∈l)):=by
 unfold Qci Qn;rw [Qbgp hl];simp only [Option.bind_some,Option.some.injEq];by_cases h:v∈l<;>simp [h]
theorem Qbhm {l:List Int} {v:Int} (hl:l.length<big):Qdz l v=some (decide (v∈l)):=by
 unfold Qdz Qbw;refine (Qkj (len:=l.length) (fun k=>some (decide (v∈l.drop k))) (by unfold Q5;unfold big at hl;omega) ?_ ?_).trans (by simp)
 ·intro k i hi ih;have hb:i<1000000000000:=by unfold big at hl;omega
  try dsimp only
  rw [if_pos (by omega),Q6 hi,Qbi (by omega),ih,List.drop_eq_getElem_cons hi];simp only [Option.bind_some,List.mem_cons];by_cases h:l[i]=v
  ·simp [h]
  ·have:¬ v=l[i]:=fun e=>h e.symm;simp [h,this]
 ·intro k;simp
theorem Q6y {a:Qa} (h:small a):Qgm a=some (Qkp a.zB a.zF none a.zD):=by
 obtain ⟨hal,_,hl⟩:=h;unfold Qgm Qcs;refine (Qkj (len:=a.zD.length) (fun k=>some (Qkp a.zB a.zF (ahead a.zD k) (a.zD.drop k))) (by unfold Q5;unfold big at hl;omega) ?_ ?_).trans (by simp [Qla])
 ·intro k i hi ih;have hb:i<1000000000000:=by unfold big at hl;omega
  rw [Q6x hi];unfold letJ
  try dsimp only
  rw [if_pos (by omega),Q6 hi,Qbi (by omega),ih];simp only [Option.bind_some,Q93 hal];generalize a.zD[i]=x;by_cases h1:x.From<0
  ·simp [h1]
  by_cases h2:x.From≥a.zF
  ·simp [h1,h2]
  by_cases h3:x.To<0
  ·simp [h1,h2,h3]
  by_cases h4:x.To≥a.zF
  ·simp [h1,h2,h3,h4]
  by_cases h5:x.Event∈a.zB
  ·by_cases h0:0<i
   ·rw [Qz5 h0 (by omega),Q6 (by omega:i-1<a.zD.length),Qz6 a.zD h0 (by omega)];generalize a.zD[i-1]=y;have hi0:i≠0:=by omega
    by_cases h6:x.From<y.From
    ·simp [h1,h2,h3,h4,h5,h6,hi0]
    by_cases h7:y.From=x.From
    ·by_cases h8:x.Event≤y.Event<;>simp [h1,h2,h3,h4,h5,h6,h7,h8,hi0]
    ·have h7' : ¬ x.From=y.From:=fun e=>h7 e.symm;simp [h1,h2,h3,h4,h5,h6,h7,hi0,h7']
   ·obtain rfl:i=0:=by omega
    simp [h1,h2,h3,h4,h5,Qla]
  ·simp [h1,h2,h3,h4,h5]
 ·intro k;unfold letJ;simp [Qkp]
theorem Q2i {a:Qa} (h:small a):Qer a=some (Qhk a):=by
 unfold Qer Qx Qhk;rw [Q39 h.1,Q39 h.2.1,Q6y h];simp only [Option.bind_some];by_cases h1:Qes 32 none a.zB=0
 ·by_cases h2:a.zF<0
  ·simp [h1,h2]
  by_cases h3:a.zF>4096
  ·simp [h1,h2,h3]
  by_cases h4:Qes a.zF none a.zC=0<;>simp [h1,h2,h3,h4]
 ·simp [h1]
end Go.Abs
end
section
namespace Go.Abs
open Go
def Qid (x y:Qb):Prop:=x.From<y.From∨x.From=y.From∧x.Event<y.Event
instance (x y:Qb):Decidable (Qid x y):=by unfold Qid;infer_instance
structure Right (a:Qa):Prop where
 al0:∀ x∈a.zB,0≤x∧x<32
 al:a.zB.Pairwise (· < ·)
 st:0≤a.zF∧a.zF≤4096
 ma0:∀ x∈a.zC,0≤x∧x<a.zF
 ma:a.zC.Pairwise (· < ·)
 ed0:∀ x∈a.zD,0≤x.From∧x.From<a.zF∧0≤x.To∧x.To<a.zF∧x.Event∈a.zB
 ed:a.zD.Pairwise Qid
theorem Qlb {n:Int}:∀ {l:List Int} {p:Option Int},Qes n p l=0↔(∀ x∈l,0≤x∧x<n)∧l.Pairwise (· < ·)∧∀ y,p=some y→∀ x∈l,y<x
 | [],p=>by simp [Qes]
 | x::xs,p=>by
  rw [Qes];split
  ·rename_i h;refine ⟨fun h=>by omega,fun hh=>?_⟩;have:=hh.1 x (by simp);omega
  ·rename_i h;split
   ·rename_i h2;obtain ⟨y,hy,hxy⟩:=h2;refine ⟨fun h=>by omega,fun hh=>?_⟩;have:=hh.2.2 y hy x (by simp);omega
   ·rename_i h2;rw [Qlb];constructor
    ·rintro ⟨k1,k2,k3⟩;refine ⟨fun z hz=>?_,List.pairwise_cons.2 ⟨fun z hz=>k3 x rfl z hz,k2⟩,fun y hy z hz=>?_⟩
     ·rcases List.mem_cons.1 hz with rfl|hz
      ·omega
      ·exact k1 z hz
     ·have hyx:y<x:=by
       rcases Int.lt_or_le y x with h|h
       ·exact h
       ·exact absurd ⟨y,hy,h⟩ h2
      rcases List.mem_cons.1 hz with rfl|hz
      ·exact hyx
      ·have:=k3 x rfl z hz;omega
    ·rintro ⟨k1,k2,k3⟩;obtain ⟨k4,k5⟩:=List.pairwise_cons.1 k2;exact ⟨fun z hz=>k1 z (by simp [hz]),k5,fun y hy z hz=>by cases hy;exact k4 z hz⟩
theorem Qt1 {al:List Int} {n:Int}:∀ {l:List Qb} {p:Option Qb},Qkp al n p l=0↔(∀ x∈l,0≤x.From∧x.From<n∧0≤x.To∧x.To<n∧x.Event∈al)∧l.Pairwise Qid∧∀ y,p=some y→∀ x∈l,Qid y x
 | [],p=>by simp [Qkp]
 | x::xs,p=>by
  have tr:∀ a b c:Qb,Qid a b→Qid b c→Qid a c:=fun a b c h k=>by unfold Qid at *;omega
  rw [Qkp];split
  ·rename_i h;refine ⟨fun h=>by omega,fun hh=>?_⟩;have:=hh.1 x (by simp);omega
  ·rename_i h;split
   ·rename_i h2;refine ⟨fun h=>by omega,fun hh=>?_⟩;exact absurd (hh.1 x (by simp)).2.2.2.2 h2
   ·rename_i hal;split
    ·rename_i h2;obtain ⟨y,hy,hxy⟩:=h2;refine ⟨fun h=>by omega,fun hh=>?_⟩;have:=hh.2.2 y hy x (by simp);unfold Qid at this;omega
    ·rename_i h2;rw [Qt1];constructor
     ·rintro ⟨k1,k2,k3⟩;refine ⟨fun z hz=>?_,List.pairwise_cons.2 ⟨fun z hz=>k3 x rfl z hz,k2⟩,fun y hy z hz=>?_⟩
      ·rcases List.mem_cons.1 hz with rfl|hz
       ·exact ⟨by omega,by omega,by omega,by omega,Decidable.not_not.1 hal⟩
       ·exact k1 z hz
      ·have hyx:Qid y x:=by
        apply Decidable.byContradiction;intro h;exact h2 ⟨y,hy,by unfold Qid at h;omega⟩
       rcases List.mem_cons.1 hz with rfl|hz
       ·exact hyx
       ·exact tr _ _ _ hyx (k3 x rfl z hz)
     ·rintro ⟨k1,k2,k3⟩;obtain ⟨k4,k5⟩:=List.pairwise_cons.1 k2;exact ⟨fun z hz=>k1 z (by simp [hz]),k5,fun y hy z hz=>by cases hy;exact k4 z hz⟩
theorem Qp2 {a:Qa}:Qhk a=0↔Right a:=by
 unfold Qhk;constructor
 ·intro h;split at h
  ·rename_i h1;exact absurd h h1
  rename_i h1;split at h
  ·omega
  split at h
  ·omega
  split at h
  ·rename_i h4;exact absurd h h4
  rename_i h4;have q1:=Qlb.1 (Decidable.not_not.1 h1);have q2:=Qlb.1 (Decidable.not_not.1 h4);have q3:=Qt1.1 h;exact ⟨q1.1,q1.2.1,⟨by omega,by omega⟩,q2.1,q2.2.1,q3.1,q3.2.1⟩
 ·intro h;have q1:Qes 32 none a.zB=0:=Qlb.2 ⟨h.al0,h.al,fun y hy=>by cases hy⟩;have q2:Qes a.zF none a.zC=0:=Qlb.2 ⟨h.ma0,h.ma,fun y hy=>by cases hy⟩;have q3:Qkp a.zB a.zF none a.zD=0:=Qt1.2 ⟨h.ed0,h.ed,fun y hy=>by cases hy⟩;have:=h.st;rw [if_neg (by simp [q1]),if_neg (by omega),if_neg (by omega),if_neg (by simp [q2]),q3]
def outP (a:Qa) (s:Int):List Qb:=a.zD.filter fun x=>x.From==s
def Qgj (a:Qa) (s e:Int):Int:=match a.zD.find? fun x=>x.From==s&&x.Event==e with
 | some x=>x.To
 | none=>-1
theorem Qbe1 {l:List Qb} (h:l.Pairwise Qid) (s:Int):l.Pairwise fun a b=>decide (b.From<s)=true→decide (a.From<s)=true :=
 h.imp fun h=>by unfold Qid at h;simp;omega
theorem Qbhn {l:List Qb} {s:Int} {cmp:Qb→Int→Option Int} (hcmp:∀ x∈l,cmp x s=some (x.From-s)) (hs:l.Pairwise Qid) (hl:l.length<big) :
  ∃ b,Qeg l s cmp=some (((l.filter fun x=>decide (x.From<s)).length:Int),b):=by
 have hc:=fun n h=>Q09 (p:=fun x:Qb=>decide (x.From<s)) (Qbe1 hs s) n h;have hcl:(l.filter fun x=>decide (x.From<s)).length≤l.length:=List.length_filter_le _ _;generalize (l.filter fun x=>decide (x.From<s)).length=c at hc hcl;have hb:l.length<1000000000000:=hl;unfold Qeg Qbj;have hloop:=Qdb (F:=fun (k13:Int×Int→Option Int) ((i11,j12):Int×Int)=>(if (i11<j12) then ((getO l (IntKind.wrap .i64 (Int.fdiv (IntKind.wrap .u64 (IntKind.wrap .i64 (i11+j12))) (2 ^ (min (Int.toNat 1) (IntKind.bits .u64)))))).bind fun x15=>((cmp x15 s).bind fun x18=>(if (x18<0) then k13 ((IntKind.wrap .i64 ((IntKind.wrap .i64 (Int.fdiv (IntKind.wrap .u64 (IntKind.wrap .i64 (i11+j12))) (2 ^ (min (Int.toNat 1) (IntKind.bits .u64)))))+1)),j12) else k13 (i11,(IntKind.wrap .i64 (Int.fdiv (IntKind.wrap .u64 (IntKind.wrap .i64 (i11+j12))) (2 ^ (min (Int.toNat 1) (IntKind.bits .u64))))))))) else some i11))
  (fun x=>∃ i j:Nat,x=((i:Int),(j:Int))∧i≤c∧c≤j∧j≤l.length) (fun x=>(x.2-x.1).toNat) (fun _ r=>r=some (c:Int)) (by
   rintro k _ ⟨i,j,rfl,h1,h2,h3⟩ ih;dsimp only;by_cases hij:i<j
   ·rw [if_pos (by omega),Qbhl (by omega) (by omega)];have hm:(i+j) / 2<l.length:=by omega
    rw [Q6 hm];simp only [Option.bind_some];rw [hcmp _ (List.getElem_mem hm)];simp only [Option.bind_some];have hcm:=hc ((i+j) / 2) hm;by_cases hlt:l[(i+j) / 2].From<s
    ·rw [if_pos (by omega),Qbi (by omega)];have:(i+j) / 2<c:=hcm.1 (by simpa using hlt);exact ih _ ⟨_,_,rfl,by omega,h2,h3⟩ (by simp only;omega)
    ·rw [if_neg (by omega)];have:¬ (i+j) / 2<c:=fun h=>hlt (by simpa using hcm.2 h);exact ih _ ⟨_,_,rfl,h1,by omega,by omega⟩ (by simp only;omega)
   ·rw [if_neg (by omega)];have:i=c:=by omega
    rw [this]) Q5 (0,(l.length:Int)) ⟨0,l.length,rfl,by omega,hcl,Nat.le_refl _⟩ (by unfold Q5;simp only;omega)
 rw [hloop];simp only [Option.bind_some];by_cases hlt:c<l.length
 ·rw [if_pos (by omega),Q6 hlt];simp only [Option.bind_some];rw [hcmp _ (List.getElem_mem hlt)];exact ⟨_,rfl⟩
 ·rw [if_neg (by omega)];exact ⟨_,rfl⟩
theorem Q8q:∀ {l:List Qb} (s:Int),l.Pairwise Qid→(l.take (l.filter fun x=>decide (x.From<s+1)).length).drop (l.filter fun x=>decide (x.From<s)).length=l.filter fun x=>x.From==s
 | [],s,_=>by simp
 | x::xs,s,h=>by
  obtain ⟨h1,h2⟩:=List.pairwise_cons.1 h;have ih:=Q8q s h2;have hge:∀ y∈xs,x.From≤y.From:=fun y hy=>by have:=h1 y hy;unfold Qid at this;omega
  by_cases hx:x.From<s
  ·have e1:decide (x.From<s)=true:=by simpa using hx
   have e2:decide (x.From<s+1)=true:=by simp;omega
   have e3:(x.From==s)=false:=by simp;omega
   simp only [List.filter_cons,e1,e2,e3,if_true,List.length_cons,List.take_succ_cons,List.drop_succ_cons,Bool.false_eq_true,if_false];exact ih
  ·have hz:xs.filter (fun x=>decide (x.From<s))=[]:=List.filter_eq_nil_iff.2 fun y hy=>by have:=hge y hy;simp;omega
   have e1:decide (x.From<s)=false:=by simpa using hx
   by_cases hq:x.From=s
   ·have e2:decide (x.From<s+1)=true:=by simp;omega
    have e3:(x.From==s)=true:=by simp [hq]
    simp only [List.filter_cons,e1,e2,e3,if_true,List.length_cons,List.take_succ_cons,Bool.false_eq_true,if_false,hz,List.length_nil,List.drop_zero];rw [hz,List.length_nil,List.drop_zero] at ih;rw [ih]
   ·have e2:decide (x.From<s+1)=false:=by simp;omega
    have e3:(x.From==s)=false:=by simp [hq]
    have hz1:xs.filter (fun x=>decide (x.From<s+1))=[]:=List.filter_eq_nil_iff.2 fun y hy=>by have:=hge y hy;simp;omega
    have hz2:xs.filter (fun x=>x.From==s)=[]:=List.filter_eq_nil_iff.2 fun y hy=>by have:=hge y hy;simp;omega
    simp only [List.filter_cons,e1,e2,e3,Bool.false_eq_true,if_false,hz,hz1,hz2,List.length_nil,List.take_zero,List.drop_zero]
section
variable {a:Qa} (h:Right a) (hs:small a)
include h hs
theorem Qbj6 {s:Int} (h0 : -1000000000000<s) (h1:s<1000000000000):Qht a s=some (outP a s):=by
 unfold Qht Qfp;have hst:=h.st;have hw:∀ t:Int,-1000000000002<t→t<1000000000002→∀ x∈a.zD,IntKind.wrap .i64 (x.From-t)=x.From-t:=fun t k1 k2 x hx=>by
  have:=h.ed0 x hx;exact Qt0 (by omega) (by omega)
 have e1:IntKind.wrap .i64 (s+1)=s+1:=Qt0 (by omega) (by omega);obtain ⟨b1,k1⟩:=Qbhn (s:=s) (cmp:=Qjg) (fun x hx=>by unfold Qjg Qeo;rw [hw s (by omega) (by omega) x hx]) h.ed hs.2.2;obtain ⟨b2,k2⟩:=Qbhn (s:=s+1) (cmp:=Qjh) (fun x hx=>by unfold Qjh Qep;rw [hw (s+1) (by omega) (by omega) x hx]) h.ed hs.2.2;rw [k1,e1];simp only [Option.bind_some];rw [k2];simp only [Option.bind_some];have hle:(a.zD.filter fun x=>decide (x.From<s)).length≤(a.zD.filter fun x=>decide (x.From<s+1)).length :=
  by rw [← List.countP_eq_length_filter,← List.countP_eq_length_filter];exact List.countP_mono_left fun x _ hx=>by simp at hx ⊢;omega
 rw [Q2h hle (List.length_filter_le _ _),Q8q s h.ed]
 rfl
omit h in
theorem Q5x {s e:Int}:Qcy a s e=some (Qgj a s e):=by
 have hb:a.zD.length<1000000000000:=hs.2.2;unfold Qcy Qbr;refine (Qkj (len:=a.zD.length) (fun k=>some (match (a.zD.drop k).find? (fun x=>x.From==s&&x.Event==e) with|some x=>x.To|none=>-1)) (by unfold Q5;omega) ?_ ?_).trans (by simp [Qgj])
 ·intro k i hi ih;rw [if_pos (by omega),Q6 hi,Qbi (by omega),ih,List.drop_eq_getElem_cons hi];simp only [Option.bind_some,List.find?_cons];cases h1:a.zD[i].From==s<;>cases h2:a.zD[i].Event==e<;>simp [h1,h2]
 ·intro k;simp
end
theorem Qt2 {a:Qa} (h:Right a) (s e:Int):Qgj a s e = -1∨0≤Qgj a s e∧Qgj a s e<a.zF∧0≤s∧s<a.zF∧e∈a.zB:=by
 unfold Qgj;split
 ·rename_i x hx;have hm:=List.mem_of_find?_eq_some hx;have hp:=List.find?_some hx;obtain ⟨k1,k2,k3,k4,k5⟩:=h.ed0 x hm;simp at hp;exact .inr ⟨k3,k4,by omega,by omega,hp.2 ▸ k5⟩
 ·exact .inl rfl
theorem Qq5 {a:Qa} (h:Right a) {s e:Int}:0≤Qgj a s e↔∃ x∈outP a s,x.Event=e:=by
 unfold Qgj outP;split
 ·rename_i x hx;have hm:=List.mem_of_find?_eq_some hx;have hp:=List.find?_some hx;simp at hp;refine ⟨fun _=>⟨x,by simp [hm,hp.1],hp.2⟩,fun _=>(h.ed0 x hm).2.2.1⟩
 ·rename_i hx;have:=List.find?_eq_none.1 hx;refine ⟨fun h=>by omega,?_⟩;rintro ⟨x,h1,h2⟩;simp at h1;exact absurd (by simp [h1.2,h2]) (this x h1.1)
theorem Qp3 {a:Qa} (h:Right a) (s:Int):(outP a s).map (·.Event)=a.zB.filter fun e=>decide (0≤Qgj a s e):=by
 refine Qbcl ?_ (h.al.filter _) fun e=>?_
 ·rw [List.pairwise_map];have h1:(outP a s).Pairwise Qid:=h.ed.filter _;have h2:∀ x∈outP a s,x.From=s:=fun x hx=>by unfold outP at hx;simp at hx;exact hx.2
  exact List.Pairwise.imp_of_mem (fun {x y} hx hy hk=>by have:=h2 x hx;have:=h2 y hy;unfold Qid at hk;omega) h1
 ·simp only [List.mem_map,List.mem_filter,decide_eq_true_eq,Qq5 h];constructor
  ·rintro ⟨x,hx,rfl⟩;refine ⟨?_,x,hx,rfl⟩;unfold outP at hx;simp at hx;exact (h.ed0 x hx.1).2.2.2.2
  ·rintro ⟨_,x,hx,rfl⟩;exact ⟨x,hx,rfl⟩
theorem Qz7 {a:Qa} (h:Right a) {s:Int} {x:Qb} (hx:x∈outP a s):Qgj a s x.Event=x.To:=by
 unfold outP at hx;simp at hx;unfold Qgj;split
 ·rename_i y hy;have hm:=List.mem_of_find?_eq_some hy;have hp:=List.find?_some hy;simp at hp;have:x=y:=by
   rcases Classical.em (x=y) with e|hne
   ·exact e
   ·exfalso;have hk:Qid x y∨Qid y x:=by
     have:=List.pairwise_iff_getElem.1 h.ed;obtain ⟨i,hi,rfl⟩:=List.getElem_of_mem hx.1;obtain ⟨j,hj,rfl⟩:=List.getElem_of_mem hm;rcases Nat.lt_trichotomy i j with hij|hij|hij
     ·exact .inl (this i j hi hj hij)
     ·subst hij;exact absurd rfl hne
     ·exact .inr (this j i hj hi hij)
    unfold Qid at hk;omega
  rw [this]
 ·rename_i hn;exact absurd (by simp [hx.2]) (List.find?_eq_none.1 hn x hx.1)
end Go.Abs
end
section
namespace Go.Abs
open Go
theorem Q1q {l:List Int} {n:Int} (hl:l.length<big):Qfc l n=some (Qes n none l):=by
 unfold Qfc Qde;refine (Qkj (len:=l.length) (fun k=>some (Qes n (ahead l k) (l.drop k))) (by unfold Q5;unfold big at hl;omega) ?_ ?_).trans (by simp [Qla])
 ·intro k i hi ih;have hb:i<1000000000000:=by unfold big at hl;omega
  rw [Qwj hi]
  try dsimp only
  rw [if_pos (by omega),Q6 hi,Qbi (by omega),ih];simp only [Option.bind_some];by_cases h1:l[i]<0
  ·simp [h1]
  ·by_cases h2:l[i]≥n
   ·simp [h1,h2]
   ·by_cases h0:0<i
    ·rw [Qz5 h0 (by omega),Q6 (by omega:i-1<l.length),Qz6 l h0 (by omega)];by_cases h3:l[i]≤l[i-1]<;>simp [h1,h2,h3,h0]
    ·obtain rfl:i=0:=by omega
     simp [h1,h2,Qla]
 ·intro k;simp [Qes]
theorem Qbgq {l m:List Int} (hl:l.Pairwise (· < ·)) (hm:m.Pairwise (· < ·)) (h1:l.length<big) (h2:m.length<1000000):Qkn l m=some (l.filter fun x=>decide (x∉m)):=by
 unfold Qkn Qe4 Qgy Qb7;obtain ⟨fuel,hfu,hge⟩ : ∃ f,Q5=f∧1099511627776≤f:=⟨_,rfl,Nat.le_refl _⟩;rw [hfu];have hg:∀ (x:Int) (l:List Int),getO (x::l) 0=some x:=fun x l=>Q6 (l:=x::l) (n:=0) (by simp);have hd:∀ (x:Int) (l:List Int),slcO (x::l) 1 ((x::l).length:Int)=some l:=fun x l=>by
  grind [Q2h,List.take_length]
 have hk:∀ p q,Qlw p q=some (p && !q):=fun p q=>by cases p<;>cases q<;>rfl
 rw [Q2g (fun x:List Int×List Int×List Int=>x.1.Pairwise (· < ·)∧x.2.1.Pairwise (· < ·)∧x.2.2.length+x.1.length<big∧x.2.2++x.1.filter (fun z=>decide (z∉x.2.1))=l.filter fun z=>decide (z∉m)) (fun x=>x.1.length+x.2.1.length) (some (l.filter fun z=>decide (z∉m))) ⟨hl,hm,by simpa using h1,by simp⟩ (by grind) ?_]
 ·rfl
 rintro k ⟨a,b,out⟩ ⟨ha,hb,ho,he⟩ ih;dsimp only at ha hb ho he ih ⊢
 match a,b with
 | [],[]=>simpa using he
 | [],y::ys =>
  simp_all
 | x::xs,[] =>
  rw [show ((([]:List Int).length:Nat):Int)=0 from rfl];have hp:(((x::xs).length:Nat):Int)>0:=by grind
  rw [if_pos hp,Option.bind_some,if_pos rfl,if_pos hp,if_pos (by rfl),Option.bind_some,if_neg (by omega),Option.bind_some,if_pos rfl,hg,hd];simp only [Option.bind_some,hk,Bool.true_and,Bool.not_false,Bool.false_eq_true,if_false,if_true];simp only [List.length_cons] at ho;rw [Qck (by simp only [List.length_cons,List.length_nil];unfold lim;unfold big at ho;omega),Option.bind_some]
  grind
 | x::xs,y::ys =>
  obtain ⟨ha1,ha2⟩:=List.pairwise_cons.1 ha;obtain ⟨hb1,hb2⟩:=List.pairwise_cons.1 hb;have hp:(((x::xs).length:Nat):Int)>0:=by grind
  have hq:(((y::ys).length:Nat):Int)>0:=by grind
  have hp0:((((x::xs).length:Nat):Int)==0)=false:=by grind
  have hq0:((((y::ys).length:Nat):Int)==0)=false:=by grind
  rw [if_pos hp,Option.bind_some,if_pos rfl,if_pos hp,if_neg (by rw [hq0];simp),hg,hg,Option.bind_some,Option.bind_some,Option.bind_some,if_pos hq,if_neg (by rw [hp0];simp),Option.bind_some,Option.bind_some,Option.bind_some,hd,hd];simp only [List.length_cons] at ho;rcases Int.lt_trichotomy x y with hxy|rfl|hxy
  ·have e1:decide (x≤y)=true:=decide_eq_true (by omega);have e2:decide (y≤x)=false:=decide_eq_false (by omega);simp only [e1,e2,Option.bind_some,hk,Bool.not_false,Bool.true_and,if_true,Bool.false_eq_true,if_false];rw [Qck (by simp only [List.length_cons,List.length_nil];unfold lim;unfold big at ho;omega),Option.bind_some]
   grind
  ·have e1:decide (x≤x)=true:=decide_eq_true (by omega);simp only [e1,Option.bind_some,hk,Bool.not_true,Bool.and_false,if_true,Bool.false_eq_true,if_false]
   grind [List.filter_cons_of_neg,List.filter_congr]
  ·have e1:decide (x≤y)=false:=decide_eq_false (by omega);have e2:decide (y≤x)=true:=decide_eq_true (by omega);simp only [e1,e2,Option.bind_some,hk,Bool.false_and,if_true,Bool.false_eq_true,if_false];refine ih (x::xs,ys,out) ⟨ha,hb2,by grind,?_⟩ (by simp);rw [← he];congr 1;refine List.filter_congr fun z hz=>?_
   grind
theorem Q8r {l m:List Int} (hl:l.Pairwise (· < ·)) (hm:m.Pairwise (· < ·)) (h1:l.length<big) (h2:m.length<1000000):Qgb l m=some (decide (∀ x∈l,x∈m)):=by
 unfold Qgb Qen;rw [Qbgq hl hm h1 h2,Option.bind_some];congr 1;rw [Bool.eq_iff_iff]
 simp_all
def inAl (l m:List Int):Bool:=decide (∀ x∈l,x∈m)
def Q8s (p:Ql):Int :=
 if Qhk p.Plant≠0 then Qhk p.Plant else if Qhk p.Ambient≠0 then Qhk p.Ambient else if Qhk p.Requirement≠0 then Qhk p.Requirement else
 if inAl p.Ambient.zB p.Plant.zB=false then 9 else if inAl p.Requirement.zB p.Plant.zB=false then 9 else
 if Qes 32 none p.Observable≠0 then Qes 32 none p.Observable else Qes 32 none p.Controllable
structure Qbe2 (p:Ql):Prop where
 hp:small p.Plant
 ha:small p.Ambient
 hr:small p.Requirement
 ho:p.Observable.length<big
 hc:p.Controllable.length<big
theorem Q4a {p:Ql} (h:Qbe2 p):Qib p=some (Q8s p):=by
 unfold Qib Qcg Q8s;obtain ⟨f,hf⟩ : ∃ f,Q5=f+4:=⟨1099511627772,rfl⟩;rw [hf];have g0:getO [p.Plant,p.Ambient,p.Requirement] 0=some p.Plant:=rfl;have g1:getO [p.Plant,p.Ambient,p.Requirement] 1=some p.Ambient:=rfl;have g2:getO [p.Plant,p.Ambient,p.Requirement] 2=some p.Requirement:=rfl;have a0:getO [p.Ambient,p.Requirement] 0=some p.Ambient:=rfl;have a1:getO [p.Ambient,p.Requirement] 1=some p.Requirement:=rfl;have o0:getO [p.Observable,p.Controllable] 0=some p.Observable:=rfl;have o1:getO [p.Observable,p.Controllable] 1=some p.Controllable:=rfl;have w1:IntKind.wrap .i64 (0+1)=1:=by decide
 have w2:IntKind.wrap .i64 (1+1)=2:=by decide
 have w3:IntKind.wrap .i64 (2+1)=3:=by decide
 simp only [Qbx,g0,g1,g2,a0,a1,o0,o1,w1,w2,w3,Option.bind_some,Q2i h.hp,Q2i h.ha,Q2i h.hr,Q1q h.ho,Q1q h.hc];by_cases e0:Qhk p.Plant=0
 ·by_cases e1:Qhk p.Ambient=0
  ·by_cases e2:Qhk p.Requirement=0
   ·have r0:=Qp2.1 e0;have r1:=Qp2.1 e1;have r2:=Qp2.1 e2;have hm:p.Plant.zB.length<1000000:=by have:=Qjj r0.al r0.al0;omega
    rw [show Qgb p.Ambient.zB p.Plant.zB=some (inAl p.Ambient.zB p.Plant.zB) from Q8r r1.al r0.al h.ha.1 hm,show Qgb p.Requirement.zB p.Plant.zB=some (inAl p.Requirement.zB p.Plant.zB) from Q8r r2.al r0.al h.hr.1 hm];cases s1:inAl p.Ambient.zB p.Plant.zB with
    | true =>
     cases s2:inAl p.Requirement.zB p.Plant.zB with
     | true =>
      by_cases l1:Qes 32 none p.Observable=0
      ·by_cases l2:Qes 32 none p.Controllable=0<;>simp [e0,e1,e2,s1,s2,l1,l2]
      ·simp [e0,e1,e2,s1,s2,l1]
     | false=>simp [e0,e1,e2,s1,s2]
    | false=>simp [e0,e1,e2,s1]
   ·simp [e0,e1,e2]
  ·simp [e0,e1]
 ·simp [e0]
section
variable {p:Ql} (h:Qbe2 p) (hc:Q8s p≠0)
include h hc
end
end Go.Abs
end
section
namespace Go.Abs
open Go
theorem Right.small {a:Qa} (h:Right a):small a∧a.zB.length≤32∧a.zC.length≤4096∧a.zD.length≤131072:=by
 have h1:=Qjj h.al h.al0;have h2:=Qjj h.ma h.ma0;have h3:(a.zD.map fun x=>x.From*32+x.Event).Pairwise (· < ·):=by
  rw [List.pairwise_map];refine List.Pairwise.imp_of_mem (fun {x y} hx hy hk=>?_) h.ed;have:=h.al0 _ (h.ed0 x hx).2.2.2.2;have:=h.al0 _ (h.ed0 y hy).2.2.2.2;unfold Qid at hk;omega
 have h4:=Qjj (a:=0) (b:=131072) h3 (by
  intro z hz;obtain ⟨x,hx,rfl⟩:=List.mem_map.1 hz;have:=h.al0 _ (h.ed0 x hx).2.2.2.2;have:=h.ed0 x hx;have:=h.st;omega)
 rw [List.length_map] at h4;have:=h.st;refine ⟨⟨?_,?_,?_⟩,?_,?_,?_⟩<;>(try unfold big)<;>omega
theorem Qyw {a:Qa} (h:Right a):Qer a=some 0:=by rw [Q2i h.small.1,Qp2.2 h]
end Go.Abs
end
section
namespace Go.Abs
open Go
def ins (o:List Int) (t:Int):List Int:=if t∈o then o else o++[t]
def Ql5 (a:Qa) (s:Int):List Int:=(outP a s).map (·.To)
def bfs (a:Qa):Nat→Nat→List Int→List Int
 | 0,_,o=>o
 | fuel+1,i,o=>match o[i]? with
  | some s=>bfs a fuel (i+1) ((Ql5 a s).foldl ins o)
  | none=>o
def Qiy (a:Qa):List Int:=bfs a (a.zF.toNat+1) 0 (if 0<a.zF then [0] else [])
structure Fnd (a:Qa) (o:List Int):Prop where
 nd:o.Nodup
 rg:∀ s∈o,0≤s∧s<a.zF
theorem Fnd.len {a:Qa} {o:List Int} (h:Fnd a o):o.length≤a.zF.toNat:=by
 have hO:Go.Sort.SWO Qkb:=⟨fun x=>by simp [Qkb],fun x y z h1 h2=>by simp [Qkb] at *;omega,fun x y z h1 h2=>by simp [Qkb] at *;omega⟩;have hp:=Qmu Qkb o;have hs:=Qop hO o;have hn:(Qlv Qkb o).Nodup:=(hp.nodup_iff).2 h.nd;have hlt:(Qlv Qkb o).Pairwise (· < ·):=by
  have:(Qlv Qkb o).Pairwise fun x y=>Qkb y x=false∧x≠y:=hs.and hn;exact this.imp fun ⟨h1,h2⟩=>by simp [Qkb] at h1;omega
 have:=Qjj hlt (a:=0) (b:=a.zF) fun x hx=>h.rg x (hp.mem_iff.1 hx);rw [Qoo] at this;simpa using this
theorem Q6z {o:List Int} {t x:Int}:x∈ins o t↔x∈o∨x=t:=by
 unfold ins;split
 ·rename_i h;constructor
  ·exact .inl
  ·rintro (h'|rfl)
   ·exact h'
   ·exact h
 ·simp
theorem Qbit (o:List Int) (t:Int):o <+: ins o t:=by
 unfold ins;split
 ·exact List.prefix_refl o
 ·exact List.prefix_append o [t]
theorem Fnd.ins {a:Qa} {o:List Int} (h:Fnd a o) {t:Int} (ht:0≤t∧t<a.zF):Fnd a (ins o t):=by
 refine ⟨?_,fun s hs=>?_⟩
 ·unfold Go.Abs.ins;split
  ·exact h.nd
  ·rename_i hn;rw [List.nodup_append];exact ⟨h.nd,by simp,fun x hx y hy=>by simp at hy;subst hy;exact fun e=>hn (e ▸ hx)⟩
 ·rcases Q6z.1 hs with hs|rfl
  ·exact h.rg s hs
  ·exact ht
theorem Qwk {a:Qa}:∀ {ts o:List Int},Fnd a o→(∀ t∈ts,0≤t∧t<a.zF)→Fnd a (ts.foldl ins o)∧o <+: ts.foldl ins o∧(∀ t∈ts,t∈ts.foldl ins o)∧∀ x∈ts.foldl ins o,x∈o∨x∈ts
 | [],o,h,_=>⟨h,List.prefix_refl o,by simp,fun x hx=>.inl hx⟩
 | t::ts,o,h,ht=>by
  obtain ⟨h1,h2,h3,h4⟩:=Qwk (ts:=ts) (h.ins (ht t (by simp))) fun t ht'=>ht t (by simp [ht']);refine ⟨h1,(Qbit o t).trans h2,fun x hx=>?_,fun x hx=>?_⟩
  ·rcases List.mem_cons.1 hx with rfl|hx
   ·exact h2.subset (Q6z.2 (.inr rfl))
   ·exact h3 x hx
  ·rcases h4 x hx with h5|h5
   ·rcases Q6z.1 h5 with h6|rfl
    ·exact .inl h6
    ·exact .inr (by simp)
   ·exact .inr (by simp [h5])
theorem Qyx {a:Qa} (h:Right a) (s:Int):∀ t∈Ql5 a s,0≤t∧t<a.zF:=by
 intro t ht;unfold Ql5 outP at ht;obtain ⟨x,hx,rfl⟩:=List.mem_map.1 ht;have:=h.ed0 x ((List.mem_filter.1 hx).1);omega
theorem Qmw {α:Type} {l m:List α} (h:l <+: m) {i:Nat} {x:α} (hx:l[i]? = some x):m[i]? = some x:=by
 obtain ⟨t,rfl⟩:=h;have:=(List.getElem?_eq_some_iff.1 hx).1;rw [List.getElem?_append_left this];exact hx
theorem Q60 {a:Qa} (h:Right a):∀ (fuel i:Nat) (o:List Int),Fnd a o→i≤o.length→a.zF.toNat+1≤fuel+i→(∀ j s,j<i→o[j]? = some s→∀ t∈Ql5 a s,t∈o) →
  Fnd a (bfs a fuel i o)∧o <+: bfs a fuel i o∧∀ s∈bfs a fuel i o,∀ t∈Ql5 a s,t∈bfs a fuel i o
 | 0,i,o,hf,hi,hfu,_=>by have:=hf.len;omega
 | fuel+1,i,o,hf,hi,hfu,hc=>by
  unfold bfs;cases hg:o[i]? with
  | none =>
   dsimp only;refine ⟨hf,List.prefix_refl o,fun s hs t ht=>?_⟩;obtain ⟨j,hj⟩:=List.getElem?_of_mem hs;have hlt:=(List.getElem?_eq_some_iff.1 hj).1;exact hc j s (by have:=List.getElem?_eq_none_iff.1 hg;omega) hj t ht
  | some s =>
   dsimp only;obtain ⟨h1,h2,h3,_⟩:=Qwk hf (Qyx h s);have hlen:i<o.length:=(List.getElem?_eq_some_iff.1 hg).1;have hle:=h2.length_le;obtain ⟨k1,k2,k3⟩:=Q60 h fuel (i+1) ((Ql5 a s).foldl ins o) h1 (by omega) (by omega) (fun j s' hj hs' t ht=>by
    by_cases hji:j<i
    ·have hjl:j<o.length:=by omega
     have:o[j]? = some s':=by
      have:=Qmw h2 (List.getElem?_eq_getElem hjl);rw [hs'] at this;rw [List.getElem?_eq_getElem hjl];exact this.symm
     exact h2.subset (hc j s' hji this t ht)
    ·obtain rfl:j=i:=by omega
     have:=Qmw h2 hg;rw [hs'] at this;cases this;exact h3 t ht)
   exact ⟨k1,h2.trans k2,k3⟩
theorem Q1a {a:Qa} (h:Right a):Fnd a (Qiy a)∧(if 0<a.zF then [0] else []) <+: Qiy a∧∀ s∈Qiy a,∀ t∈Ql5 a s,t∈Qiy a :=
 Q60 h _ 0 _ ⟨by split<;>simp,fun s hs=>by split at hs<;>simp at hs;subst hs;omega⟩ (Nat.zero_le _) (by omega) fun j s hj=>by omega
def Qp4 (m:List Int):Nat→List Int→List Int
 | _,[]=>[]
 | i,s::t=>(if s∈m then [(i:Int)] else [])++Qp4 m (i+1) t
def rowP (a:Qa) (F:List Int) (i:Nat) (s:Int):List Qb:=(outP a s).map fun x=>⟨(i:Int),x.Event,(F.idxOf x.To:Int)⟩
def Qp5 (a:Qa) (F:List Int):Nat→List Int→List Qb
 | _,[]=>[]
 | i,s::t=>rowP a F i s++Qp5 a F (i+1) t
def Qjb (a:Qa):Qa:=⟨a.zB,((Qiy a).length:Int),Qp4 a.zC 0 (Qiy a),Qp5 a (Qiy a) 0 (Qiy a)⟩
theorem Qwl {m:List Int}:∀ {l:List Int} {i:Nat},∀ x∈Qp4 m i l,(i:Int)≤x∧x<(i+l.length:Nat)
 | [],i,x,hx=>by simp [Qp4] at hx
 | s::t,i,x,hx=>by
  simp only [Qp4,List.mem_append] at hx;rcases hx with hx|hx
  ·split at hx<;>simp at hx;subst hx;simp only [List.length_cons];omega
  ·have:=Qwl x hx;simp only [List.length_cons];omega
theorem Qz8 {m:List Int}:∀ {l:List Int} {i:Nat},(Qp4 m i l).Pairwise (· < ·)
 | [],i=>.nil
 | s::t,i=>by
  simp only [Qp4];rw [List.pairwise_append];refine ⟨by split<;>simp,Qz8,fun x hx y hy=>?_⟩;have:=Qwl y hy;split at hx<;>simp at hx;omega
theorem Qyy {a:Qa} {F:List Int}:∀ {l:List Int} {i:Nat},∀ x∈Qp5 a F i l,(i:Int)≤x.From∧x.From<(i+l.length:Nat)∧∃ s∈l,∃ y∈outP a s,x.Event=y.Event∧x.To=(F.idxOf y.To:Int)
 | [],i,x,hx=>by simp [Qp5] at hx
 | s::t,i,x,hx=>by
  simp only [Qp5,List.mem_append] at hx;rcases hx with hx|hx
  ·obtain ⟨y,hy,rfl⟩:=List.mem_map.1 hx;simp only [List.length_cons];exact ⟨by omega,by omega,s,by simp,y,hy,rfl,rfl⟩
  ·obtain ⟨h1,h2,s',h3,h4⟩:=Qyy x hx;simp only [List.length_cons];exact ⟨by omega,by omega,s',by simp [h3],h4⟩
theorem Qz9 {a:Qa} (h:Right a) {F:List Int}:∀ {l:List Int} {i:Nat},(Qp5 a F i l).Pairwise Qid
 | [],i=>.nil
 | s::t,i=>by
  simp only [Qp5];rw [List.pairwise_append];refine ⟨?_,Qz9 h,fun x hx y hy=>?_⟩
  ·unfold rowP;rw [List.pairwise_map];have h1:(outP a s).Pairwise Qid:=h.ed.filter _;have h2:∀ x∈outP a s,x.From=s:=fun x hx=>by unfold outP at hx;simp at hx;exact hx.2
   exact List.Pairwise.imp_of_mem (fun {x y} hx hy hk=>by have:=h2 x hx;have:=h2 y hy;unfold Qid at hk;exact .inr ⟨rfl,by show x.Event<y.Event;omega⟩) h1
  ·obtain ⟨z,_,rfl⟩:=List.mem_map.1 hx;have:=(Qyy y hy).1;unfold Qid;simp only;omega
theorem Qq6 {a:Qa} (h:Right a):Right (Qjb a):=by
 obtain ⟨h1,h2,h3⟩:=Q1a h;have hl:=h1.len;have hst:=h.st;refine ⟨h.al0,h.al,⟨by simp only [Qjb];omega,by simp only [Qjb];omega⟩,fun x hx=>?_,Qz8,fun x hx=>?_,Qz9 h⟩
 ·have:=Qwl x hx;simp only [Qjb];omega
 ·obtain ⟨k1,k2,s,hs,y,hy,k3,k4⟩:=Qyy x hx;have hy' : y.To∈Qiy a:=h3 s hs y.To (List.mem_map.2 ⟨y,hy,rfl⟩);have:=List.idxOf_lt_length_iff.2 hy';simp only [Qjb];refine ⟨by omega,by omega,by omega,by omega,?_⟩;rw [k3];unfold outP at hy;exact (h.ed0 y ((List.mem_filter.1 hy).1)).2.2.2.2
end Go.Abs
end
section
namespace Go.Abs
open Go
theorem Qbbl {l:List Int} (hl:l.length≤lim):Qfr l=some ⟨l,0,[],[]⟩:=by
 unfold Qfr Qbg;rw [Qck (by simpa using hl)];rfl
theorem Q94 {l:List Int} {v:Int} (hl:l.length<big):Qfs l v=some (if v∈l then (l.idxOf v:Int) else -1):=by
 have hb:l.length<1000000000000:=hl;unfold Qfs Qc8;refine (Qkj (len:=l.length) (fun k=>some (if v∈l.drop k then ((k+(l.drop k).idxOf v:Nat):Int) else -1)) (by unfold Q5;omega) ?_ ?_).trans (by simp)
 ·intro k i hi ih;rw [if_pos (by omega),Q6 hi,Qbi (by omega),ih,List.drop_eq_getElem_cons hi];simp only [Option.bind_some,List.mem_cons,List.idxOf_cons];by_cases h:v=l[i]
  ·simp [← h]
  ·have h' : ¬ l[i]=v:=fun e=>h e.symm;have hbq:(l[i]==v)=false:=by simp [h']
   by_cases h2:v∈l.drop (i+1)<;>simp [h,h2,hbq];omega
 ·intro k;simp
theorem Q1r {a:Qa} (h:Right a) (s:Int):Ql5 a s=(a.zB.filter fun e=>decide (0≤Qgj a s e)).map (Qgj a s):=by
 rw [← Qp3 h,List.map_map];unfold Ql5;exact List.map_congr_left fun x hx=>(Qz7 h hx).symm
theorem Q5y {a:Qa} (s:Int):∀ (al o:List Int),al.foldl (fun o e=>if 0≤Qgj a s e then ins o (Qgj a s e) else o) o=((al.filter fun e=>decide (0≤Qgj a s e)).map (Qgj a s)).foldl ins o
 | [],o=>rfl
 | e::al,o=>by
  by_cases hx:0≤Qgj a s e<;>simp [List.filter_cons,hx,Q5y s al]
theorem Qbbm {a:Qa} {fuel i:Nat} {o:List Int} (hi:i<o.length):bfs a (fuel+1) i o=bfs a fuel (i+1) ((Ql5 a o[i]).foldl ins o):=by
 conv=>lhs;unfold bfs
 rw [List.getElem?_eq_getElem hi]
theorem Qbe3 {a:Qa} {fuel:Nat} {o:List Int}:bfs a fuel o.length o=o:=by
 cases fuel with
 | zero=>rfl
 | succ n=>unfold bfs;simp
section
variable {a:Qa} (h:Right a)
include h
theorem Qbcm (fuel:Nat) (hfu:1099511627776≤fuel) {s:Int} {o:List Int} {i:Nat} (hf:Fnd a o) (hi:o[i]? = some s) :
  Qbx (fun k12 ((out10,k11):(List Int)×Int)=>(if (k11<(a.zB.length:Int)) then ((((getO out10 (i:Int)).bind fun x14=>((getO a.zB k11).bind fun x16=>((Qcy a x14 x16).bind fun x19=>(((if (x19≥0) then ((Qdz out10 x19).bind fun x22=>some (!x22)) else some false)).bind fun (x23:Bool)=>(if x23 then ((appO out10 [x19]).bind fun x25=>some x25) else some out10)))))).bind fun (out27:List Int)=>k12 (out27,(IntKind.wrap .i64 (k11+1)))) else some out10)) fuel (o,0)=some ((Ql5 a s).foldl ins o):=by
 have hs:=h.small.1;have hst:=h.st;have hb:a.zB.length<1000000000000:=hs.1;rw [Q1r h,← Q5y];refine (Ql3 (len:=a.zB.length) (fun n (acc:List Int)=>(acc,(n:Int))) (fun n acc=>Fnd a acc∧acc[i]? = some s) (fun n acc=>some ((a.zB.drop n).foldl (fun o e=>if 0≤Qgj a s e then ins o (Qgj a s e) else o) acc)) ?_ ?_ fuel 0 o (Nat.zero_le _) (by omega) ⟨hf,hi⟩).trans (by simp)
 ·intro k n acc hn ⟨k1,k2⟩ ih;have hlen:=k1.len;have hg:getO acc (i:Int)=some s:=by rw [Q38];exact ⟨by omega,by simpa using k2⟩
  dsimp only;rw [if_pos (by omega),hg,Q6 hn];simp only [Option.bind_some];rw [Q5x hs,Qbi (by omega)];simp only [Option.bind_some];rw [Qbhm (by unfold big;omega),List.drop_eq_getElem_cons hn,List.foldl_cons];rcases Qt2 h s a.zB[n] with hr|hr
  ·rw [hr];simp only [show ¬ ((-1:Int)≥0) from by omega,show ¬ ((0:Int) ≤ -1) from by omega,if_false,Option.bind_some,Bool.false_eq_true];exact ih _ ⟨k1,k2⟩
  ·have hge:Qgj a s a.zB[n]≥0:=hr.1;by_cases hm:Qgj a s a.zB[n]∈acc
   ·simp only [hge,hm,decide_true,Bool.not_true,if_true,Option.bind_some,Bool.false_eq_true,if_false,hr.1,ins];exact ih _ ⟨k1,k2⟩
   ·simp only [hge,hm,decide_false,Bool.not_false,if_true,Option.bind_some,hr.1,ins,if_false];rw [Qck (by simp only [List.length_cons,List.length_nil];unfold lim;omega)];simp only [Option.bind_some];have hi':=k1.ins (t:=Qgj a s a.zB[n]) ⟨hr.1,hr.2.1⟩;unfold ins at hi';rw [if_neg hm] at hi';exact ih _ ⟨hi',Qmw (List.prefix_append acc _) k2⟩
 ·intro k acc _;dsimp only;rw [if_neg (by omega)];simp
theorem Q95:Qg8 a=some (Qiy a):=by
 have hs:=h.small.1;have hst:=h.st;unfold Qg8 Qc7;obtain ⟨fuel,hfu,hge⟩ : ∃ f,Q5=f∧1099511627776≤f:=⟨_,rfl,Nat.le_refl _⟩;rw [hfu];have hloop:∀ o:List Int,Fnd a o→Qbx (fun (k8:List Int×Int→Option (List Int)) ((out6,i7):(List Int)×Int)=>(if (i7<(out6.length:Int)) then ((Qbx (fun k12 ((out10,k11):(List Int)×Int)=>(if (k11<(a.zB.length:Int)) then ((((getO out10 i7).bind fun x14=>((getO a.zB k11).bind fun x16=>((Qcy a x14 x16).bind fun x19=>(((if (x19≥0) then ((Qdz out10 x19).bind fun x22=>some (!x22)) else some false)).bind fun (x23:Bool)=>(if x23 then ((appO out10 [x19]).bind fun x25=>some x25) else some out10)))))).bind fun (out27:List Int)=>k12 (out27,(IntKind.wrap .i64 (k11+1)))) else some out10)) fuel (out6,0)).bind fun (out28:List Int)=>k8 (out28,(IntKind.wrap .i64 (i7+1)))) else some out6)) fuel (o,0)=some (bfs a (a.zF.toNat+1) 0 o):=by
  intro o ho;have:=Qdb (F:=fun (k8:List Int×Int→Option (List Int)) ((out6,i7):(List Int)×Int)=>(if (i7<(out6.length:Int)) then ((Qbx (fun k12 ((out10,k11):(List Int)×Int)=>(if (k11<(a.zB.length:Int)) then ((((getO out10 i7).bind fun x14=>((getO a.zB k11).bind fun x16=>((Qcy a x14 x16).bind fun x19=>(((if (x19≥0) then ((Qdz out10 x19).bind fun x22=>some (!x22)) else some false)).bind fun (x23:Bool)=>(if x23 then ((appO out10 [x19]).bind fun x25=>some x25) else some out10)))))).bind fun (out27:List Int)=>k12 (out27,(IntKind.wrap .i64 (k11+1)))) else some out10)) fuel (out6,0)).bind fun (out28:List Int)=>k8 (out28,(IntKind.wrap .i64 (i7+1)))) else some out6))
   (fun x=>∃ i:Nat,x.2=(i:Int)∧i≤x.1.length∧Fnd a x.1) (fun x=>a.zF.toNat+1-x.2.toNat) (fun x r=>r=some (bfs a (a.zF.toNat+1-x.2.toNat) x.2.toNat x.1)) (by
    rintro k ⟨o,i⟩ ⟨i,rfl,hi,hf⟩ ih;replace hi:i≤o.length:=hi;replace hf:Fnd a o:=hf;have hl:=hf.len;dsimp only;by_cases hlt:i<o.length
    ·rw [if_pos (by omega),Qbcm h fuel hge hf (List.getElem?_eq_getElem hlt),Option.bind_some,Qbi (by omega)];obtain ⟨q1,q2,_,_⟩:=Qwk hf (Qyx h o[i]);have hle:=q2.length_le;rw [ih _ ⟨i+1,rfl,by simp only;omega,q1⟩ (by simp only;omega)];simp only [Int.toNat_natCast];rw [show a.zF.toNat+1-i=(a.zF.toNat+1-(i+1))+1 from by omega,Qbbm hlt]
    ·rw [if_neg (by omega)];obtain rfl:i=o.length:=by omega
     simp only [Int.toNat_natCast,Qbe3]) fuel (o,0) ⟨0,rfl,Nat.zero_le _,ho⟩ (by simp only;omega)
  simpa using this
 by_cases h0:0<a.zF
 ·rw [if_pos (by omega),Qck (by simp only [List.length_cons,List.length_nil];unfold lim;omega)];simp only [Option.bind_some];rw [show ([]++[0]:List Int)=[0] from rfl,hloop [0] ⟨by simp,fun s hs=>by simp at hs;subst hs;omega⟩];simp only [Option.bind_some,Qiy,if_pos h0]
 ·rw [if_neg (by omega)];simp only [Option.bind_some];rw [hloop [] ⟨by simp,fun s hs=>by simp at hs⟩];simp only [Option.bind_some,Qiy,if_neg h0]
theorem Q5z (fuel:Nat) (hfu:1099511627776≤fuel) {F:List Int} (hF:Fnd a F) (hcl:∀ s∈F,∀ t∈Ql5 a s,t∈F) {s:Int} {i:Nat} (hi:F[i]? = some s) (ms:List Int) (es:List Qb) (hes:es.length≤200000) :
  Qbx (fun (k24:Int×List Qb→Option (List Int×List Qb)) ((k22,out23):Int×(List Qb))=>(if (k22<(a.zB.length:Int)) then ((((getO F (i:Int)).bind fun x26=>((getO a.zB k22).bind fun x28=>((Qcy a x26 x28).bind fun x31=>(if (x31≥0) then ((getO a.zB k22).bind fun x33=>((Qfs F x31).bind fun x36=>((appO out23 [(Qb.mk (i:Int) x33 x36)]).bind fun x37=>some x37))) else some out23))))).bind fun (out39:List Qb)=>k24 ((IntKind.wrap .i64 (k22+1)),out39)) else some (ms,out23))) fuel (0,es)=some (ms,es++rowP a F i s):=by
 have hs:=h.small.1;have hst:=h.st;have hal:=h.small.2.1;have hb:a.zB.length<1000000000000:=hs.1;have hFl:=hF.len;have hrow:rowP a F i s=(a.zB.filter fun e=>decide (0≤Qgj a s e)).map fun e=>⟨(i:Int),e,(F.idxOf (Qgj a s e):Int)⟩:=by
  rw [← Qp3 h,List.map_map];unfold rowP;exact List.map_congr_left fun x hx=>by simp only [Function.comp];rw [Qz7 h hx]
 rw [hrow];refine (Ql3 (len:=a.zB.length) (fun n (acc:List Qb)=>((n:Int),acc)) (fun n acc=>acc.length≤200000+n) (fun n acc=>some (ms,acc++((a.zB.drop n).filter fun e=>decide (0≤Qgj a s e)).map fun e=>⟨(i:Int),e,(F.idxOf (Qgj a s e):Int)⟩)) ?_ ?_ fuel 0 es (Nat.zero_le _) (by omega) (by omega)).trans (by simp)
 ·intro k n acc hn k1 ih;have hg:getO F (i:Int)=some s:=by rw [Q38];exact ⟨by omega,by simpa using hi⟩
  dsimp only;rw [if_pos (by omega),hg,Q6 hn];simp only [Option.bind_some];rw [Q5x hs,Qbi (by omega)];simp only [Option.bind_some];rw [List.drop_eq_getElem_cons hn,List.filter_cons];by_cases hr:0≤Qgj a s a.zB[n]
  ·have hm:Qgj a s a.zB[n]∈F:=hcl s (List.mem_of_getElem? hi) _ (by rw [Q1r h];exact List.mem_map.2 ⟨_,List.mem_filter.2 ⟨List.getElem_mem hn,by simpa using hr⟩,rfl⟩);rw [if_pos hr,Q94 (by unfold big;omega),if_pos hm];simp only [Option.bind_some];rw [Qck (by simp only [List.length_cons,List.length_nil];unfold lim;omega)];simp only [Option.bind_some];rw [ih _ (by simp only [List.length_append,List.length_cons,List.length_nil];omega)];simp only [hr,decide_true,if_true,List.map_cons,List.append_assoc,List.cons_append,List.nil_append]
  ·rw [if_neg (by omega)];simp only [Option.bind_some];rw [ih _ (by omega)];simp only [hr,decide_false,Bool.false_eq_true,if_false]
 ·intro k acc _;dsimp only;rw [if_neg (by omega)];simp
theorem Qbbn {F:List Int} {i:Nat} {s:Int}:(rowP a F i s).length≤32:=by
 have:=h.small.2.1;have h1:(rowP a F i s).length=((outP a s).map (·.Event)).length:=by simp [rowP]
 rw [h1,Qp3 h];exact Nat.le_trans (List.length_filter_le _ _) this
theorem Qwm:Qee a=some (Qjb a):=by
 have hs:=h.small.1;have hst:=h.st;have hal:=h.small.2.1;have hb:a.zB.length<1000000000000:=hs.1;obtain ⟨hF,_,hcl⟩:=Q1a h;have hFl:=hF.len;unfold Qee Q2;obtain ⟨fuel,hfu,hge⟩ : ∃ f,Q5=f∧1099511627776≤f:=⟨_,rfl,Nat.le_refl _⟩;rw [hfu,Q95 h,Option.bind_some,Qbbl (by unfold lim;omega),Option.bind_some];unfold Qjb;generalize Qiy a=F at hF hcl hFl;show Option.bind (Qbx _ fuel (((0:Nat):Int),[],[],[],[],[])) _=_;rw [Ql3 (len:=F.length) (R:=List Int×List Int×List Qb×List Int×List Qb) (fun n (acc:List Int×List Qb)=>((n:Int),([]:List Int),([]:List Int),([]:List Qb),acc.1,acc.2)) (fun n acc=>acc.1.length≤n∧acc.2.length≤32*n)
  (fun n acc=>some (([]:List Int),([]:List Int),([]:List Qb),acc.1++Qp4 a.zC n (F.drop n),acc.2++Qp5 a F n (F.drop n))) ?_ ?_ fuel 0 ([],[]) (Nat.zero_le _) (by omega) ⟨Nat.zero_le _,Nat.zero_le _⟩]
 ·simp
 ·rintro k n ⟨ms,es⟩ hn ⟨k1,k2⟩ ih;replace k1:ms.length≤n:=k1;replace k2:es.length≤32*n:=k2;have hg:=List.getElem?_eq_getElem hn;dsimp only;rw [if_pos (by omega),Q6 hn];simp only [Option.bind_some];rw [Qbhm hs.2.1];simp only [Option.bind_some];have hrl:=Qbbn h (F:=F) (i:=n) (s:=F[n]);rw [List.drop_eq_getElem_cons hn];simp only [Qp4,Qp5];by_cases hm:F[n]∈a.zC
  ·simp only [hm,decide_true,if_true];rw [Qck (by simp only [List.length_cons,List.length_nil];unfold lim;omega)];simp only [Option.bind_some];have:=Q5z h fuel hge hF hcl hg (ms++[(n:Int)]) es (by omega);rw [Q6 hn] at this;simp only [Option.bind_some] at this;rw [this];simp only [Option.bind_some];rw [Qbi (by omega),ih (ms++[(n:Int)],es++rowP a F n F[n]) ⟨by simp only [List.length_append,List.length_cons,List.length_nil];omega,by simp only [List.length_append];omega⟩];simp only [List.append_assoc]
  ·simp only [hm,decide_false,Bool.false_eq_true,if_false,Option.bind_some];have:=Q5z h fuel hge hF hcl hg ms es (by omega);rw [Q6 hn] at this;simp only [Option.bind_some] at this;rw [this];simp only [Option.bind_some];rw [Qbi (by omega),ih (ms,es++rowP a F n F[n]) ⟨by simp only;omega,by simp only [List.length_append];omega⟩];simp only [List.append_assoc,List.nil_append]
 ·rintro k ⟨ms,es⟩ _;dsimp only;rw [if_neg (by omega)];simp [Qp4,Qp5]
end
end Go.Abs
end
section
namespace Go.Abs
open Go
structure Evs (l:List Int):Prop where
 rg:∀ x∈l,0≤x∧x<5
 so:l.Pairwise (· < ·)
theorem Evs.len {l:List Int} (h:Evs l):l.length≤5:=by have:=Qjj h.so h.rg;simpa using this
def Qbgr:List Int→Bool
 | []=>true
 | x::xs=>xs.all (fun y=>decide (x<y))&&Qbgr xs
theorem Q8t:∀ {l:List Int},Qbgr l=true→l.Pairwise (· < ·)
 | [],_=>.nil
 | x::xs,h=>by
  simp only [Qbgr,Bool.and_eq_true,List.all_eq_true,decide_eq_true_eq] at h;exact List.pairwise_cons.2 ⟨h.1,Q8t h.2⟩
def evB (s:Nat):Bool:=match Qda (s:Int) with
 | some l=>Qbgr l&&l.all fun x=>decide (0≤x)&&decide (x<5)
 | none=>false
theorem Qbiu:(List.range 256).all evB=true:=by kernel_rfl
theorem Qbe4 {s:Int} (h0:0≤s) (h1:s<256):∃ l,Qda s=some l∧Evs l:=by
 have:=List.all_eq_true.1 Qbiu s.toNat (List.mem_range.2 (by omega));unfold evB at this;rw [show ((s.toNat:Nat):Int)=s from by omega] at this;split at this
 ·rename_i l hl;simp only [Bool.and_eq_true,List.all_eq_true,decide_eq_true_eq] at this;exact ⟨l,hl,fun x hx=>this.2 x hx,Q8t this.1⟩
 ·cases this
structure Mks (n:Nat) (ms:List Int):Prop where
 rg:∀ x∈ms,0≤x∧x<n
 so:ms.Pairwise (· < ·)
structure Eds (al:List Int) (N:Int) (i k:Nat) (es:List Qb):Prop where
 rg:∀ x∈es,0≤x.From∧0≤x.To∧x.To<N∧x.Event∈al∧(x.From<i∨x.From=i∧∃ j:Nat,j<k∧al[j]? = some x.Event)
 so:es.Pairwise Qid
 ln:es.length≤5*i+k
theorem Mks.up {n:Nat} {ms:List Int} (h:Mks n ms):Mks (n+1) ms:=⟨fun x hx=>by have:=h.rg x hx;omega,h.so⟩
theorem Mks.add {n:Nat} {ms:List Int} (h:Mks n ms):Mks (n+1) (ms++[(n:Int)]):=by
 refine ⟨fun x hx=>?_,?_⟩
 ·rcases List.mem_append.1 hx with hx|hx
  ·have:=h.rg x hx;omega
  ·simp at hx;omega
 ·rw [List.pairwise_append];exact ⟨h.so,by simp,fun x hx y hy=>by simp at hy;have:=h.rg x hx;omega⟩
theorem Mks.len {n:Nat} {ms:List Int} (h:Mks n ms):ms.length≤n:=by have:=Qjj h.so h.rg;simpa using this
section
variable {al:List Int} (hal:Evs al) {N:Int} {i k:Nat} {es:List Qb}
theorem Eds.up (h:Eds al N i k es):Eds al N i (k+1) es:=⟨fun x hx=>by
 obtain ⟨h1,h2,h3,h4,h5⟩:=h.rg x hx;refine ⟨h1,h2,h3,h4,?_⟩;rcases h5 with h5|⟨h5,j,h6,h7⟩
 ·exact .inl h5
 ·exact .inr ⟨h5,j,by omega,h7⟩,h.so,by have:=h.ln;omega⟩
theorem Eds.next (h:Eds al N i k es) (hk:k≤5):Eds al N (i+1) 0 es:=⟨fun x hx=>by
 obtain ⟨h1,h2,h3,h4,h5⟩:=h.rg x hx;exact ⟨h1,h2,h3,h4,.inl (by rcases h5 with h5|⟨h5,_⟩<;>omega)⟩,h.so,by have:=h.ln;omega⟩
include hal in
theorem Eds.add (h:Eds al N i k es) (hk:k<al.length) {t:Int} (ht:0≤t∧t<N):Eds al N i (k+1) (es++[⟨(i:Int),al[k],t⟩]):=by
 refine ⟨fun x hx=>?_,?_,by have:=h.ln;simp only [List.length_append,List.length_cons,List.length_nil];omega⟩
 ·rcases List.mem_append.1 hx with hx|hx
  ·exact h.up.rg x hx
  ·simp at hx;subst hx;exact ⟨by simp only;omega,ht.1,ht.2,List.getElem_mem hk,.inr ⟨rfl,k,by omega,List.getElem?_eq_getElem hk⟩⟩
 ·rw [List.pairwise_append];refine ⟨h.so,by simp,fun x hx y hy=>?_⟩;simp at hy;subst hy;obtain ⟨_,_,_,_,h5⟩:=h.rg x hx;rcases h5 with h5|⟨h5,j,h6,h7⟩
  ·exact .inl h5
  ·refine .inr ⟨h5,?_⟩;obtain ⟨h8,h9⟩:=List.getElem?_eq_some_iff.1 h7;rw [← h9];exact List.pairwise_iff_getElem.1 hal.so j k h8 hk h6
end
structure Q4b (g:Qs):Prop where
 st:0≤g.zF∧g.zF<256
 to:∀ x∈[g.To.1.1,g.To.1.2.1,g.To.1.2.2.1,g.To.1.2.2.2.1,g.To.1.2.2.2.2,g.To.2.1.1,g.To.2.1.2.1,g.To.2.1.2.2.1,g.To.2.1.2.2.2.1,g.To.2.1.2.2.2.2,g.To.2.2.1.1,g.To.2.2.1.2.1,g.To.2.2.1.2.2.1,g.To.2.2.1.2.2.2.1,g.To.2.2.1.2.2.2.2,g.To.2.2.2.1.1,g.To.2.2.2.1.2.1,g.To.2.2.2.1.2.2.1,g.To.2.2.2.1.2.2.2.1,g.To.2.2.2.1.2.2.2.2,g.To.2.2.2.2.1,g.To.2.2.2.2.2.1,g.To.2.2.2.2.2.2.1,g.To.2.2.2.2.2.2.2.1,g.To.2.2.2.2.2.2.2.2],0≤x∧x<256
theorem Qbbo {al:List Int} (hal:Evs al) (fuel:Nat) (hfu:1099511627776≤fuel) {L:List Int} (hL:L.length=25) (hL2:∀ x∈L,0≤x∧x<256) {N:Int} (hN:1≤N∧N≤5) {i:Nat} (hi:(i:Int)<N) {ms:List Int} {es:List Qb} (hes:Eds al N i 0 es) :
  ∃ es',Eds al N (i+1) 0 es'∧Qbx (fun (k25:Int×List Qb→Option (List Int×List Qb)) ((k23,a24):Int×(List Qb))=>(((if (k23<(al.length:Int)) then some (decide (k23<5)) else some false)).bind fun (x27:Bool)=>(if x27 then ((((inO 5 (i:Int)).bind fun _=>((inO 5 k23).bind fun _=>((rowO L (Int.toNat (i:Int)*5+Int.toNat k23*1)).bind fun x31=>((remO .i64 (IntKind.wrap .i64 x31) (IntKind.wrap .i64 (N+2))).bind fun s33=>(if (s33<N) then ((getO al k23).bind fun x36=>((appO a24 [(Qb.mk (i:Int) x36 s33)]).bind fun x38=>some x38)) else some a24)))))).bind fun (a40:List Qb)=>k25 ((IntKind.wrap .i64 (k23+1)),a40)) else some (ms,a24)))) fuel (0,es)=some (ms,es'):=by
 have hl:=hal.len;have:=Qdb (F:=fun (k25:Int×List Qb→Option (List Int×List Qb)) ((k23,a24):Int×(List Qb))=>(((if (k23<(al.length:Int)) then some (decide (k23<5)) else some false)).bind fun (x27:Bool)=>(if x27 then ((((inO 5 (i:Int)).bind fun _=>((inO 5 k23).bind fun _=>((rowO L (Int.toNat (i:Int)*5+Int.toNat k23*1)).bind fun x31=>((remO .i64 (IntKind.wrap .i64 x31) (IntKind.wrap .i64 (N+2))).bind fun s33=>(if (s33<N) then ((getO al k23).bind fun x36=>((appO a24 [(Qb.mk (i:Int) x36 s33)]).bind fun x38=>some x38)) else some a24)))))).bind fun (a40:List Qb)=>k25 ((IntKind.wrap .i64 (k23+1)),a40)) else some (ms,a24))))
  (fun x=>∃ k:Nat,x.1=(k:Int)∧k≤al.length∧Eds al N i k x.2) (fun x=>al.length-x.1.toNat) (fun _ r=>∃ es',r=some (ms,es')∧Eds al N (i+1) 0 es') (by
   rintro kk ⟨k,es⟩ ⟨k,rfl,hk,he⟩ ih;replace he:Eds al N i k es:=he;replace hk:k≤al.length:=hk;dsimp only;by_cases hlt:k<al.length
   ·rw [if_pos (by omega)];simp only [Option.bind_some,show decide ((k:Int)<5)=true from by simp;omega,if_true];rw [show inO 5 (i:Int)=some () from by unfold inO;rw [if_pos (by omega)],show inO 5 (k:Int)=some () from by unfold inO;rw [if_pos (by omega)]];simp only [Option.bind_some,Int.toNat_natCast];have hidx:i*5+k*1<L.length:=by omega
    have hx:=hL2 _ (List.getElem_mem hidx);rw [show rowO L (i*5+k*1)=some L[i*5+k*1] from by unfold rowO;exact List.getElem?_eq_getElem hidx];simp only [Option.bind_some];rw [Qt0 (x:=L[i*5+k*1]) (by omega) (by omega),Qt0 (x:=N+2) (by omega) (by omega),show remO .i64 L[i*5+k*1] (N+2)=some (L[i*5+k*1].tmod (N+2)) from by unfold remO;rw [if_neg (by omega)]];simp only [Option.bind_some];have hmod:0≤L[i*5+k*1].tmod (N+2):=Int.tmod_nonneg _ hx.1;have hln:=he.ln;by_cases hm:L[i*5+k*1].tmod (N+2)<N
    ·rw [if_pos hm,Q6 hlt];simp only [Option.bind_some];rw [Qck (by simp only [List.length_cons,List.length_nil];unfold lim;omega)];simp only [Option.bind_some];rw [Qbi (by omega)];exact ih _ ⟨k+1,rfl,hlt,he.add hal hlt ⟨hmod,hm⟩⟩ (by simp only;omega)
    ·rw [if_neg hm];simp only [Option.bind_some];rw [Qbi (by omega)];exact ih _ ⟨k+1,rfl,hlt,he.up⟩ (by simp only;omega)
   ·rw [if_neg (by omega)];exact ⟨es,rfl,he.next (by omega)⟩) fuel (0,es) ⟨0,rfl,Nat.zero_le _,hes⟩ (by simp only;omega)
 obtain ⟨es',h1,h2⟩:=this;exact ⟨es',h2,h1⟩
theorem Q96 {al:List Int} (hal:Evs al):Right ⟨al,0,[],[]⟩ :=
 ⟨fun x hx=>by have:=hal.rg x hx;omega,hal.so,⟨by simp,by simp⟩,by simp,.nil,by simp,.nil⟩
theorem Qbiv {al:List Int} (hal:Evs al) {g:Qs} (hg:Q4b g):∃ m,Right m∧m.zB=al∧Qf3 al g=some (Qjb m)∧m.zF≤5:=by
 have hl:=hal.len;obtain ⟨hst,hto⟩:=hg;unfold Qf3 Qce;obtain ⟨fuel,hfu,hge⟩ : ∃ f,Q5=f∧1099511627776≤f:=⟨_,rfl,Nat.le_refl _⟩;rw [hfu,Qbbl (by unfold lim;omega)];simp only [Option.bind_some];by_cases h250:g.zF≥250
 ·rw [if_pos h250];exact ⟨⟨al,0,[],[]⟩,Q96 hal,rfl,rfl,by simp⟩
 rw [if_neg h250];have hL:[g.To.1.1,g.To.1.2.1,g.To.1.2.2.1,g.To.1.2.2.2.1,g.To.1.2.2.2.2,g.To.2.1.1,g.To.2.1.2.1,g.To.2.1.2.2.1,g.To.2.1.2.2.2.1,g.To.2.1.2.2.2.2,g.To.2.2.1.1,g.To.2.2.1.2.1,g.To.2.2.1.2.2.1,g.To.2.2.1.2.2.2.1,g.To.2.2.1.2.2.2.2,g.To.2.2.2.1.1,g.To.2.2.2.1.2.1,g.To.2.2.2.1.2.2.1,g.To.2.2.2.1.2.2.2.1,g.To.2.2.2.1.2.2.2.2,g.To.2.2.2.2.1,g.To.2.2.2.2.2.1,g.To.2.2.2.2.2.2.1,g.To.2.2.2.2.2.2.2.1,g.To.2.2.2.2.2.2.2.2].length=25:=rfl;generalize [g.To.1.1,g.To.1.2.1,g.To.1.2.2.1,g.To.1.2.2.2.1,g.To.1.2.2.2.2,g.To.2.1.1,g.To.2.1.2.1,g.To.2.1.2.2.1,g.To.2.1.2.2.2.1,g.To.2.1.2.2.2.2,g.To.2.2.1.1,g.To.2.2.1.2.1,g.To.2.2.1.2.2.1,g.To.2.2.1.2.2.2.1,g.To.2.2.1.2.2.2.2,g.To.2.2.2.1.1,g.To.2.2.2.1.2.1,g.To.2.2.2.1.2.2.1,g.To.2.2.2.1.2.2.2.1,g.To.2.2.2.1.2.2.2.2,g.To.2.2.2.2.1,g.To.2.2.2.2.2.1,g.To.2.2.2.2.2.2.1,g.To.2.2.2.2.2.2.2.1,g.To.2.2.2.2.2.2.2.2]=L at hto hL ⊢;have hmod:0≤g.zF.tmod 5∧g.zF.tmod 5<5:=⟨Int.tmod_nonneg _ hst.1,Int.tmod_lt_of_pos _ (by omega)⟩;have hN:1≤IntKind.wrap .i64 (1+(IntKind.wrap .i64 (Int.tmod g.zF 5)))∧IntKind.wrap .i64 (1+(IntKind.wrap .i64 (Int.tmod g.zF 5)))≤5:=by
  rw [Qt0 (x:=g.zF.tmod 5) (by omega) (by omega),Qt0 (by omega) (by omega)];omega
 generalize IntKind.wrap .i64 (1+(IntKind.wrap .i64 (Int.tmod g.zF 5)))=N at hN ⊢;have hloop:=Qdb (F:=(fun (k15:Int×List Int×List Int×List Qb×Int×List Int×List Qb→Option (List Int×List Int×List Qb×Int×List Int×List Qb)) ((i8,c9,c10,c11,a12,a13,a14):Int×(List Int)×(List Int)×(List Qb)×Int×(List Int)×(List Qb))=>(if (i8<a12) then ((((((shrO .u8 g.Marks i8).bind fun s17=>(if ((andI .u8 s17 1)==1) then ((appO a13 [i8]).bind fun x20=>some x20) else some a13))).bind fun (a22:List Int)=>Qbx (fun k25 ((k23,a24):Int×(List Qb))=>(((if (k23<(al.length:Int)) then some (decide (k23<5)) else some false)).bind fun (x27:Bool)=>(if x27 then ((((inO 5 i8).bind fun _=>((inO 5 k23).bind fun _=>((rowO L (Int.toNat i8*5+Int.toNat k23*1)).bind fun x31=>((remO .i64 (IntKind.wrap .i64 x31) (IntKind.wrap .i64 (a12+2))).bind fun s33=>(if (s33<a12) then ((getO al k23).bind fun x36=>((appO a24 [(Qb.mk i8 x36 s33)]).bind fun x38=>some x38)) else some a24)))))).bind fun (a40:List Qb)=>k25 ((IntKind.wrap .i64 (k23+1)),a40)) else some (a22,a24)))) fuel (0,a14))).bind fun ((a41,a42):(List Int)×(List Qb))=>k15 ((IntKind.wrap .i64 (i8+1)),c9,c10,c11,a12,a41,a42)) else some (c9,c10,c11,a12,a13,a14))))
  (fun x=>∃ (i:Nat) (ms:List Int) (es:List Qb),x=((i:Int),[],[],[],N,ms,es)∧(i:Int)≤N∧Mks i ms∧Eds al N i 0 es) (fun x=>(N-x.1).toNat)
  (fun _ r=>∃ (i:Nat) (ms:List Int) (es:List Qb),r=some ([],[],[],N,ms,es)∧(i:Int)=N∧Mks i ms∧Eds al N i 0 es) (by
   rintro k _ ⟨i,ms,es,rfl,hi,hm,he⟩ ih;dsimp only;by_cases hlt:(i:Int)<N
   ·rw [if_pos hlt,show shrO .u8 g.Marks (i:Int)=some (g.Marks.fdiv (2 ^ (min (Int.toNat (i:Int)) (IntKind.bits .u8)))) from by unfold shrO;rw [if_neg (by omega)]];simp only [Option.bind_some];have hml:=hm.len;by_cases hb:(andI .u8 (g.Marks.fdiv (2 ^ (min (Int.toNat (i:Int)) (IntKind.bits .u8)))) 1==1)=true
    ·rw [if_pos hb,Qck (by simp only [List.length_cons,List.length_nil];unfold lim;omega)];simp only [Option.bind_some];obtain ⟨es',h1,h2⟩:=Qbbo hal fuel hge hL hto hN hlt (ms:=ms++[(i:Int)]) he;rw [h2];simp only [Option.bind_some];rw [Qbi (by omega)];exact ih _ ⟨i+1,_,_,rfl,by omega,hm.add,h1⟩ (by simp only;omega)
    ·rw [if_neg hb];simp only [Option.bind_some];obtain ⟨es',h1,h2⟩:=Qbbo hal fuel hge hL hto hN hlt (ms:=ms) he;rw [h2];simp only [Option.bind_some];rw [Qbi (by omega)];exact ih _ ⟨i+1,_,_,rfl,by omega,hm.up,h1⟩ (by simp only;omega)
   ·rw [if_neg hlt];exact ⟨i,ms,es,rfl,by omega,hm,he⟩) fuel (0,[],[],[],N,[],[]) ⟨0,[],[],rfl,by omega,⟨by simp,.nil⟩,⟨by simp,.nil,by simp⟩⟩ (by simp only;omega)
 obtain ⟨i,ms,es,h1,h2,h3,h4⟩:=hloop;rw [h1];simp only [Option.bind_some];have hr:Right ⟨al,N,ms,es⟩:=⟨fun x hx=>by have:=hal.rg x hx;omega,hal.so,⟨by simp only;omega,by simp only;omega⟩,fun x hx=>by have:=h3.rg x hx;simp only;omega,h3.so,fun x hx=>by
  obtain ⟨k1,k2,k3,k4,k5⟩:=h4.rg x hx;refine ⟨k1,?_,k2,k3,k4⟩;rcases k5 with k5|⟨_,j,k6,_⟩
  ·simp only;omega
  ·omega,h4.so⟩
 rw [Qwm hr];exact ⟨_,hr,rfl,rfl,by simp only;omega⟩
end Go.Abs
end
section
namespace Go.Abs
open Go
def upto (n:Int):List Int:=(List.range n.toNat).map fun (i:Nat)=>(i:Int)
theorem Qbgs {n x:Int}:x∈upto n↔0≤x∧x<n:=by
 simp only [upto,List.mem_map,List.mem_range];constructor
 ·rintro ⟨i,hi,rfl⟩;omega
 ·rintro ⟨h1,h2⟩;exact ⟨x.toNat,by omega,by omega⟩
theorem Q0a (n:Int):(upto n).length=n.toNat:=by simp [upto]
theorem Q2j {n:Int} {i:Nat} (h:i<(upto n).length):(upto n)[i]=(i:Int):=by simp [upto]
theorem Q4c {X S R α:Type} {F:(X→Option R)→X→Option R} {fuel:Nat} {l:List α} (mk:Int→S→X) (stp:S→α→S) (I:Nat→S→Prop) (K:S→Option R) (hl:l.length<big) (hf:1099511627776≤fuel)
  (step:∀ (k:X→Option R) (n:Nat) (s:S) (h:n<l.length),I n s→F k (mk n s)=k (mk (IntKind.wrap .i64 ((n:Int)+1)) (stp s l[n])))
  (keep:∀ (n:Nat) (s:S) (h:n<l.length),I n s→I (n+1) (stp s l[n]))
  (last:∀ (k:X→Option R) (s:S),I l.length s→F k (mk l.length s)=K s) {s0:S} (h0:I 0 s0):Qbx F fuel (mk 0 s0)=K (l.foldl stp s0):=by
 have hb:l.length<1000000000000:=hl;have:=Ql3 (F:=F) (len:=l.length) (fun n s=>mk n s) I (fun n s=>K ((l.drop n).foldl stp s)) (fun k n s hn hi ih=>by
  rw [step k n s hn hi,Qbi (by omega),ih _ (keep n s hn hi),List.drop_eq_getElem_cons hn,List.foldl_cons]) (fun k s hi=>by rw [last k s hi];simp) fuel 0 s0 (Nat.zero_le _) (by omega) h0
 simpa using this
theorem Qbe5 {X R α:Type} {F:(X→Option R)→X→Option R} {fuel:Nat} {l:List α} (mk:Int→X) (p:α→Bool) (hit:α→Option R) (K:Option R) (hl:l.length<big) (hf:1099511627776≤fuel)
  (step:∀ (k:X→Option R) (n:Nat) (h:n<l.length),F k (mk n)=if p l[n] then hit l[n] else k (mk (IntKind.wrap .i64 ((n:Int)+1))))
  (last:∀ (k:X→Option R),F k (mk l.length)=K):Qbx F fuel (mk 0)=match l.find? p with|some x=>hit x|none=>K:=by
 have hb:l.length<1000000000000:=hl;have:=Ql3 (F:=F) (len:=l.length) (fun n (_:Unit)=>mk n) (fun _ _=>True) (fun n _=>match (l.drop n).find? p with|some x=>hit x|none=>K) (fun k n s hn hi ih=>by
  rw [step k n hn,Qbi (by omega),ih () trivial,List.drop_eq_getElem_cons hn,List.find?_cons];cases p l[n]<;>simp) (fun k s hi=>by rw [last k];simp) fuel 0 () (Nat.zero_le _) (by omega) trivial
 simpa using this
def at0 {α:Type} (d:α) (l:List α) (x:Int):α:=l.getD x.toNat d
abbrev ati (l:List Int) (x:Int):Int:=at0 0 l x
theorem Qbiw {α:Type} {d:α} {l:List α} {x:Int} (h0:0≤x) (h1:x<l.length):getO l x=some (at0 d l x):=by
 have h:x.toNat<l.length:=by omega
 unfold getO at0;rw [if_pos h0,List.getD_eq_getElem?_getD,List.getElem?_eq_getElem h];rfl
theorem Qbix {α:Type} {l:List α} {x:Int} {y:α} (h0:0≤x) (h1:x<l.length):setO l x y=some (l.set x.toNat y):=by
 unfold setO;rw [if_pos ⟨h0,by omega⟩]
theorem Q8u {n:Nat} {x:Int} (h0:0≤x) (h1:x<n):inO n x=some ():=by
 unfold inO;rw [if_pos ⟨h0,h1⟩]
theorem Q4d {α:Type} {l:List α} {n:Nat} (h:l.length=n):lenO l n=some ():=by
 unfold lenO;rw [if_pos h]
end Go.Abs
end
section
namespace Go.Abs
open Go
theorem bytes_beq (a b:ByteArray):(a==b)=decide (a=b):=by
 cases a;cases b;rw [Bool.eq_iff_iff];simp only [decide_eq_true_eq,ByteArray.mk.injEq];exact beq_iff_eq (α:=Array UInt8)
theorem Q8v {β:Type} {v:β} {k k' : ByteArray}:∀ {m:List (ByteArray×β)},hasM (setM m k v) k'=(decide (k'=k)||hasM m k')
 | []=>by simp [setM,hasM,bytes_beq]
 | (q,w)::m=>by
  have ih:=Q8v (v:=v) (k:=k) (k':=k') (m:=m);simp only [setM];by_cases h:k=q
  ·subst h;simp only [bytes_beq,decide_true,if_true,Qj2];by_cases h2:k'=k<;>simp [h2,bytes_beq]
  ·simp only [bytes_beq,h,decide_false,Bool.false_eq_true,if_false,Qj2];rw [ih];cases decide (k'=q)<;>cases decide (k'=k)<;>rfl
theorem Q4e {β:Type} {z v:β} {k k' : ByteArray}:∀ {m:List (ByteArray×β)},getM (setM m k v) k' z=if k'=k then v else getM m k' z
 | []=>by simp [setM,getM,bytes_beq]
 | (q,w)::m=>by
  have ih:=Q4e (z:=z) (v:=v) (k:=k) (k':=k') (m:=m);simp only [setM];by_cases h:k=q
  ·subst h;simp only [bytes_beq,decide_true,if_true,getM];by_cases h2:k'=k
   ·subst h2;simp
   ·simp [h2]
  ·simp only [bytes_beq,h,decide_false,Bool.false_eq_true,if_false,getM];by_cases h2:k'=q
   ·subst h2;have:¬ k'=k:=fun e=>h e.symm;simp [this]
   ·simp only [h2,decide_false,Bool.false_eq_true,if_false,ih]
theorem Q4f {α:Type} {l:List α} {j:Nat} {y:α} (h:j<l.length):setO l (j:Int) y=some (l.set j y):=by
 simp [setO,h]
structure RefI (σ:Nat→ByteArray) (N i:Nat) (c:List (ByteArray×Int)) (l:List Int):Prop where
 len:l.length=N
 has:∀ k,hasM c k=true↔∃ j,j<i∧σ j=k
 at_:∀ j,j<i→l[j]? = some (getM c (σ j) 0)
 rng:∀ j,j<i→0≤getM c (σ j) 0∧getM c (σ j) 0<c.length
 inj:∀ j j',j<i→j'<i→getM c (σ j) 0=getM c (σ j') 0→σ j=σ j'
 cnt:c.length≤i
 sur:∀ m:Nat,m<c.length→∃ j,j<i∧getM c (σ j) 0=(m:Int)
theorem Q8w {N:Nat} (hN:N≤4096) {sig:Int→Option ByteArray} {σ:Nat→ByteArray} (hs:∀ j:Nat,j<N→sig (j:Int)=some (σ j)) :
  ∃ c l,Qko (N:Int) sig=some (l,(c.length:Int))∧RefI σ N N c l:=by
 unfold Qko Qef;have hm:mkO (N:Int) (0:Int)=some (List.replicate N 0):=by
  unfold mkO;rw [if_pos ⟨by omega,by unfold lim;omega⟩];simp
 rw [hm,Option.bind_some];have hz:Int.toNat (N:Int)=N:=by simp
 rw [hz];obtain ⟨fuel,hfu,hge⟩ : ∃ f,Q5=f∧1099511627776≤f:=⟨_,rfl,Nat.le_refl _⟩;rw [hfu]
 suffices h:∃ c l,Qbx (fun k14 ((x11,c12,c13):Int×(List (ByteArray×Int))×(List Int))=>(if (x11<(N:Int)) then ((sig x11).bind fun x17=>(((if (hasM c12 x17) then some ((getM c12 x17 0),c12) else some ((c12.length:Int),(setM c12 x17 (c12.length:Int))))).bind fun ((k19,c20):Int×(List (ByteArray×Int)))=>((inO N x11).bind fun u21=>((setO c13 x11 k19).bind fun x23=>k14 ((IntKind.wrap .i64 (x11+1)),c20,x23))))) else some (c12,c13))) fuel (0,[],List.replicate N 0)=some (c,l)∧RefI σ N N c l by
  obtain ⟨c,l,h1,h2⟩:=h;refine ⟨c,l,?_,h2⟩;rw [h1,Option.bind_some];dsimp only;rw [Q4d h2.len];rfl
 refine Qdb (fun x:Int×List (ByteArray×Int)×List Int=>∃ i:Nat,x.1=(i:Int)∧i≤N∧RefI σ N i x.2.1 x.2.2) (fun x=>N-x.1.toNat) (fun _ r=>∃ c l,r=some (c,l)∧RefI σ N N c l) (fun k x hx ih=>?_) fuel (0,[],List.replicate N 0) ⟨0,rfl,by omega,⟨by simp,fun k=>by simp [hasM],fun j h=>by omega,fun j h=>by omega,fun j j' h=>by omega,by simp,fun m h=>by simp at h⟩⟩ (by simp only;omega);obtain ⟨x,c,l⟩:=x;obtain ⟨i,h1,hi,hI⟩:=hx;simp only at h1 hI;subst h1;dsimp only;by_cases hlt:i<N
 ·rw [if_pos (by omega),hs i hlt,Option.bind_some];have hset:∀ v,setO l (i:Int) v=some (l.set i v):=fun v=>Q4f (by rw [hI.len];exact hlt);cases hh:hasM c (σ i) with
  | true =>
   rw [if_pos rfl,Option.bind_some];dsimp only;rw [Q8u (by omega) (by omega),Option.bind_some,hset,Option.bind_some,Qbi (by omega)];refine ih _ ⟨i+1,rfl,by omega,?_⟩ (by simp only;omega);obtain ⟨j0,hj0,e0⟩:=(hI.has (σ i)).1 hh;refine ⟨by simp [hI.len],fun k=>(hI.has k).trans ⟨fun ⟨j,hj,e⟩=>⟨j,by omega,e⟩,fun ⟨j,hj,e⟩=>?_⟩,fun j hj=>?_,fun j hj=>?_,fun j j' hj hj' e=>?_,by have:=hI.cnt;simp only;omega,fun m hm=>?_⟩
   ·by_cases e1:j=i
    ·subst e1;exact ⟨j0,hj0,e0.trans e⟩
    ·exact ⟨j,by omega,e⟩
   ·by_cases e1:j=i
    ·subst e1;simp [hI.len,hlt]
    ·rw [List.getElem?_set_ne (by omega)];exact hI.at_ j (by omega)
   ·by_cases e1:j=i
    ·subst e1;rw [← e0];exact hI.rng j0 hj0
    ·exact hI.rng j (by omega)
   ·have r:∀ j,j<i+1→∃ j1,j1<i∧σ j1=σ j:=fun j hj=>by
     by_cases e1:j=i
     ·subst e1;exact ⟨j0,hj0,e0⟩
     ·exact ⟨j,by omega,rfl⟩
    obtain ⟨a,ha,ea⟩:=r j hj;obtain ⟨b,hb,eb⟩:=r j' hj';rw [← ea,← eb] at e ⊢;exact hI.inj a b ha hb e
   ·obtain ⟨j,hj,e⟩:=hI.sur m hm;exact ⟨j,by omega,e⟩
  | false =>
   rw [if_neg (by simp),Option.bind_some];dsimp only;rw [Q8u (by omega) (by omega),Option.bind_some,hset,Option.bind_some,Qbi (by omega)];refine ih _ ⟨i+1,rfl,by omega,?_⟩ (by simp only;omega);have hne:∀ j,j<i→σ j≠σ i:=fun j hj e=>by
    have:=(hI.has (σ i)).2 ⟨j,hj,e⟩;rw [hh] at this;cases this
   have hlen:(setM c (σ i) (c.length:Int)).length=c.length+1:=by rw [Qr8 hh];simp
   have hg:∀ j,j<i→getM (setM c (σ i) (c.length:Int)) (σ j) 0=getM c (σ j) 0:=fun j hj=>by rw [Q4e,if_neg (hne j hj)]
   have hgi:getM (setM c (σ i) (c.length:Int)) (σ i) 0=(c.length:Int):=by rw [Q4e,if_pos rfl]
   refine ⟨by simp [hI.len],fun k=>?_,fun j hj=>?_,fun j hj=>?_,fun j j' hj hj' e=>?_,by have:=hI.cnt;simp only [hlen];omega,fun m hm=>?_⟩
   ·simp only [Q8v,Bool.or_eq_true,decide_eq_true_eq];constructor
    ·rintro (rfl|h)
     ·exact ⟨i,by omega,rfl⟩
     ·obtain ⟨j,hj,e⟩:=(hI.has k).1 h;exact ⟨j,by omega,e⟩
    ·rintro ⟨j,hj,e⟩;by_cases e1:j=i
     ·subst e1;exact .inl e.symm
     ·exact .inr ((hI.has k).2 ⟨j,by omega,e⟩)
   ·by_cases e1:j=i
    ·subst e1;simp only [hgi];simp [hI.len,hlt]
    ·simp only [hg j (by omega)];rw [List.getElem?_set_ne (by omega)];exact hI.at_ j (by omega)
   ·by_cases e1:j=i
    ·subst e1;simp only [hgi,hlen];omega
    ·simp only [hg j (by omega),hlen];have:=hI.rng j (by omega);omega
   ·simp only at e;by_cases e1:j=i
    ·by_cases e2:j'=i
     ·rw [e1,e2]
     ·rw [e1,hgi,hg j' (by omega)] at e;have:=hI.rng j' (by omega);omega
    ·by_cases e2:j'=i
     ·rw [e2,hgi,hg j (by omega)] at e;have:=hI.rng j (by omega);omega
     ·rw [hg j (by omega),hg j' (by omega)] at e;exact hI.inj j j' (by omega) (by omega) e
   ·simp only [hlen] at hm;by_cases e1:m=c.length
    ·exact ⟨i,by omega,by simp only [hgi,e1]⟩
    ·obtain ⟨j,hj,e⟩:=hI.sur m (by omega);exact ⟨j,by omega,by simp only [hg j hj];exact e⟩
 ·rw [if_neg (by omega)];obtain rfl:i=N:=by omega
  exact ⟨c,l,rfl,hI⟩
end Go.Abs
end
section
namespace Go.Abs
open Go
theorem Q2k {τ:Type} [DecidableEq τ]:∀ {l m:List τ},l.Nodup→(∀ x∈l,x∈m)→l.length≤m.length
 | [],_,_,_=>by simp
 | x::l,m,h,hs=>by
  obtain ⟨a1,a2⟩:=List.nodup_cons.1 h;have hx:=hs x (by simp);have:=Q2k (l:=l) (m:=m.erase x) a2 fun y hy=>(List.mem_erase_of_ne (by rintro rfl;exact a1 hy)).2 (hs y (by simp [hy]));rw [List.length_erase_of_mem hx] at this;have:0<m.length:=List.length_pos_of_mem hx;simp only [List.length_cons];omega
theorem Q8x {k k' : Nat} (R:Nat→Nat→Prop) (tot:∀ m,m<k→∃ v,v<k'∧R m v) (inj:∀ m m' v,m<k→m'<k→R m v→R m' v→m=m'):k≤k':=by
 have key:∀ n,n≤k→∃ l:List Nat,l.length=n∧l.Nodup∧(∀ v∈l,v<k'∧∃ m,m<n∧R m v):=by
  intro n
  induction n with
  | zero=>exact fun _=>⟨[],rfl,List.nodup_nil,by simp⟩
  | succ n ih =>
   intro hn;obtain ⟨l,h1,h2,h3⟩:=ih (by omega);obtain ⟨v,hv,hr⟩:=tot n (by omega);refine ⟨v::l,by simp [h1],List.nodup_cons.2 ⟨fun hm=>?_,h2⟩,fun x hx=>?_⟩
   ·obtain ⟨_,m,hm1,hm2⟩:=h3 v hm;have:=inj n m v (by omega) (by omega) hr hm2;omega
   ·rcases List.mem_cons.1 hx with rfl|hx
    ·exact ⟨hv,n,by omega,hr⟩
    ·obtain ⟨a,m,b,c⟩:=h3 x hx;exact ⟨a,m,by omega,c⟩
 obtain ⟨l,h1,h2,h3⟩:=key k (Nat.le_refl _);have:l.length≤(List.range k').length:=by
  refine Q2k h2 fun v hv=>?_;exact List.mem_range.2 (h3 v hv).1
 simpa [h1] using this
theorem RefI.finer {σ σ' : Nat→ByteArray} {N:Nat} {c c' : List (ByteArray×Int)} {l l' : List Int} (h:RefI σ N N c l) (h' : RefI σ' N N c' l') (hf:∀ j j',j<N→j'<N→σ' j=σ' j'→σ j=σ j'):c.length≤c'.length:=by
 refine Q8x (fun m v=>∃ j,j<N∧getM c (σ j) 0=(m:Int)∧getM c' (σ' j) 0=(v:Int)) (fun m hm=>?_) (fun m m' v hm hm' h1 h2=>?_)
 ·obtain ⟨j,hj,e⟩:=h.sur m hm;have hr:=h'.rng j hj;exact ⟨(getM c' (σ' j) 0).toNat,by omega,j,hj,e,by omega⟩
 ·obtain ⟨j,hj,e1,e2⟩:=h1;obtain ⟨j',hj',e1',e2'⟩:=h2;have:=hf j j' hj hj' (h'.inj j j' hj hj' (e2.trans e2'.symm));rw [this] at e1;omega
end Go.Abs
end
section
namespace Go.Abs
open Go
section
variable {a:Qa} (h:Right a)
include h
theorem Qbho {α:Type} (z:α):mkO a.zF z=some (List.replicate a.zF.toNat z):=by
 unfold mkO;rw [if_pos ⟨h.st.1,by have:=h.st.2;unfold lim;omega⟩]
theorem Qbbp:∃ b,Qi7 a=some b∧b.length=a.zF.toNat:=by
 unfold Qi7 Qc0;rw [Qbho h,Option.bind_some];obtain ⟨fuel,hfu,hge⟩ : ∃ f,Q5=f∧1099511627776≤f:=⟨_,rfl,Nat.le_refl _⟩;rw [hfu];have hb:a.zC.length<1000000000000:=h.small.1.2.1
 suffices hs:∃ b,Qbx (fun k6 ((x4,c5):Int×(List Bool))=>(if (x4<(a.zC.length:Int)) then ((getO a.zC x4).bind fun x8=>((inO (Int.toNat a.zF) x8).bind fun u10=>((setO c5 x8 true).bind fun x12=>k6 ((IntKind.wrap .i64 (x4+1)),x12)))) else some c5)) fuel (0,List.replicate a.zF.toNat false)=some b∧b.length=a.zF.toNat by
  obtain ⟨b,h1,h2⟩:=hs;exact ⟨b,by rw [h1,Option.bind_some,Q4d h2];rfl,h2⟩
 refine Qdb (fun x:Int×List Bool=>∃ i:Nat,x.1=(i:Int)∧i≤a.zC.length∧x.2.length=a.zF.toNat) (fun x=>a.zC.length-x.1.toNat) (fun _ r=>∃ b:List Bool,r=some b∧b.length=a.zF.toNat) (fun k x hx ih=>?_) fuel (0,List.replicate a.zF.toNat false) ⟨0,rfl,by omega,by simp⟩ (by simp only;omega);obtain ⟨x,c⟩:=x;obtain ⟨i,h1,hi,hl⟩:=hx;simp only at h1 hl;subst h1;dsimp only;by_cases hlt:i<a.zC.length
 ·have hm:=h.ma0 a.zC[i] (List.getElem_mem hlt);obtain ⟨m,hme⟩ : ∃ m:Nat,a.zC[i]=(m:Int):=⟨a.zC[i].toNat,by omega⟩;rw [if_pos (by omega),Q6 hlt,Option.bind_some,Q8u (by omega) (by omega),Option.bind_some,hme,Q4f (by omega),Option.bind_some,Qbi (by omega)];exact ih _ ⟨i+1,rfl,by omega,by simp [hl]⟩ (by simp only;omega)
 ·rw [if_neg (by omega)];exact ⟨c,rfl,hl⟩
end
end Go.Abs
end
section
namespace Go.Abs
open Go
theorem Q8y:∀ (ns:List Int) (b:ByteArray),(ns.foldl (fun r n=>r.push (UInt8.ofNat n.toNat)) b).data.toList=b.data.toList++ns.map fun n=>UInt8.ofNat n.toNat
 | [],b=>by simp
 | n::ns,b=>by
  rw [List.foldl_cons,Q8y ns];simp [ByteArray.push]
theorem Q8z (ns:List Int):(strB ns).data.toList=ns.map fun n=>UInt8.ofNat n.toNat:=by
 unfold strB;rw [Q8y];simp
theorem Q0b {x y:Int} (hx:0≤x∧x<256) (hy:0≤y∧y<256) (h:UInt8.ofNat x.toNat=UInt8.ofNat y.toNat):x=y:=by
 have:=congrArg UInt8.toNat h;simp only [UInt8.toNat_ofNat'] at this;omega
def hiB (v:Int):Int:=IntKind.wrap .u8 (Int.fdiv v (2 ^ (min (Int.toNat 8) (IntKind.bits .i64))))
def loB (v:Int):Int:=IntKind.wrap .u8 v
theorem Qbbq {v:Int} (h:0≤v∧v<65536):hiB v=v / 256:=by
 unfold hiB;rw [show (2:Int) ^ (min (Int.toNat 8) (IntKind.bits .i64))=256 from by decide,Int.fdiv_eq_ediv_of_nonneg _ (by decide)];exact Qbe0 (by omega) (by omega)
theorem Qbbr {v:Int} (h:0≤v∧v<65536):loB v=v % 256:=by
 unfold loB;simp [IntKind.wrap,IntKind.bits,IntKind.signed]
theorem Qbiy {v w:Int} (hv:0≤v∧v<65536) (hw:0≤w∧w<65536) {K K' : List Int} (h:strB (hiB v::loB v::K)=strB (hiB w::loB w::K')):v=w:=by
 have h1:=congrArg (fun b:ByteArray=>b.data.toList) h;simp only [Q8z,List.map_cons,List.cons.injEq] at h1;rw [Qbbq hv,Qbbq hw,Qbbr hv,Qbbr hw] at h1;have a:=Q0b (x:=v / 256) (y:=w / 256) (by omega) (by omega) h1.1;have b:=Q0b (x:=v % 256) (y:=w % 256) (by omega) (by omega) h1.2.1;omega
theorem Qwn {b:List Int} {v:Int} (hb:b.length<1000000000):Qfe b v=some (b++[hiB v,loB v]):=by
 unfold Qfe Qcl;rw [Qck (by simp;unfold lim;omega)];rfl
end Go.Abs
end
section
namespace Go.Abs
open Go
end Go.Abs
end
section
namespace Go.Abs
open Go
theorem RefI.ati {σ:Nat→ByteArray} {N:Nat} {c:List (ByteArray×Int)} {l:List Int} (h:RefI σ N N c l) {j:Nat} (hj:j<N):ati l (j:Int)=getM c (σ j) 0:=by
 have:=h.at_ j hj;simp [Go.Abs.ati,at0,List.getD_eq_getElem?_getD,this]
end Go.Abs
end
section
namespace Go.Abs
open Go
theorem Qbbs {β:Type} {v:β} {k k' : Int}:∀ {m:List (Int×β)},hasM (setM m k v) k'=(decide (k'=k)||hasM m k')
 | []=>by
  simp only [setM,hasM,List.any_cons,List.any_nil,Bool.or_false];rw [Bool.eq_iff_iff];simp
 | (q,w)::m=>by
  by_cases h1:k=q
  ·subst h1;simp only [setM,beq_self_eq_true,if_true,Qj2];rw [Bool.eq_iff_iff];simp
  ·have h1' : (k==q)=false:=by simp [h1]
   simp only [setM,h1',Bool.false_eq_true,if_false,Qj2];rw [Qbbs (m:=m)];cases (k'==q)<;>cases decide (k'=k)<;>simp
structure FndC (N:Nat) (cl:List Int) (found:List Int) (c:List (Int×Int)):Prop where
 rg:∀ f∈found,0≤f∧f<N
 nd:(found.map fun f=>ati cl f).Nodup
 has:∀ v,hasM c v=true↔∃ f∈found,ati cl f=v
theorem FndC.len {N:Nat} {cl:List Int} (hc:∀ j:Nat,j<N→0≤ati cl j∧ati cl j<N) {found:List Int} {c:List (Int×Int)} (h:FndC N cl found c):found.length≤N:=by
 have:=Q2k h.nd (m:=(List.range N).map fun j:Nat=>(j:Int)) fun v hv=>by
  obtain ⟨f,hf,rfl⟩:=List.mem_map.1 hv;have h1:=h.rg f hf;have h2:=hc f.toNat (by omega);rw [show ((f.toNat:Nat):Int)=f from by omega] at h2;exact List.mem_map.2 ⟨(ati cl f).toNat,List.mem_range.2 (by omega),by omega⟩
 simpa using this
theorem FndC.add {N:Nat} {cl found:List Int} {c:List (Int×Int)} (h:FndC N cl found c) {t:Int} (ht:0≤t∧t<N) (hn:hasM c (ati cl t)=false) (v:Int):FndC N cl (found++[t]) (setM c (ati cl t) v):=by
 refine ⟨fun f hf=>?_,?_,fun w=>?_⟩
 ·rcases List.mem_append.1 hf with hf|hf
  ·exact h.rg f hf
  ·simp at hf;subst hf;exact ht
 ·rw [List.map_append,List.nodup_append];refine ⟨h.nd,by simp,fun x hx y hy e=>?_⟩;simp at hy;subst hy;subst e;obtain ⟨f,hf,e⟩:=List.mem_map.1 hx;have:=(h.has (ati cl t)).2 ⟨f,hf,e⟩;rw [hn] at this;cases this
 ·rw [Qbbs,Bool.or_eq_true,decide_eq_true_eq,h.has];constructor
  ·rintro (rfl|⟨f,hf,e⟩)
   ·exact ⟨t,by simp,rfl⟩
   ·exact ⟨f,by simp [hf],e⟩
  ·rintro ⟨f,hf,e⟩;rcases List.mem_append.1 hf with hf|hf
   ·exact .inr ⟨f,hf,e⟩
   ·simp at hf;subst hf;exact .inl e.symm
end Go.Abs
end
section
namespace Go.Abs
open Go
structure Like (a b:Qa) (φ:Int→Int):Prop where
 al:b.zB=a.zB
 st:0<b.zF↔0<a.zF
 zero:0<a.zF→φ 0=0
 inj:∀ s∈Qiy a,∀ t∈Qiy a,φ s=φ t→s=t
 out:∀ s∈Qiy a,outP b (φ s)=(outP a s).map fun x=>⟨φ s,x.Event,φ x.To⟩
 ma:∀ s∈Qiy a,(φ s∈b.zC↔s∈a.zC)
section
variable {F:List Int} {φ:Int→Int} (inj:∀ s∈F,∀ t∈F,φ s=φ t→s=t)
include inj
end
section
variable {a b:Qa} {φ:Int→Int} (ha:Right a) (hb:Right b) (h:Like a b φ)
include ha h
include hb
end
section
variable {a b:Qa} {φ:Int→Int} (ha:Right a) (hb:Right b) (h:Like a b φ)
include ha h
end
end Go.Abs
end
section
namespace Go.Abs
open Go
theorem Q80 {α:Type} (l:List α) {i t:Nat} (h:i≤t):l.take t=l.take i++(l.take t).drop i:=by
 conv=>lhs;rw [← List.take_append_drop i (l.take t)]
 rw [List.take_take,Nat.min_eq_left h]
section
variable {a:Qa} (h:Right a)
include h
theorem Qbe6 {i j:Nat} (hi:i<a.zD.length) (hj:j<a.zD.length) (hij:i≤j):a.zD[i].From≤a.zD[j].From:=by
 rcases Nat.lt_or_eq_of_le hij with h1|rfl
 ·have:=List.pairwise_iff_getElem.1 h.ed i j hi hj h1;unfold Qid at this;omega
 ·exact Int.le_refl _
theorem Qbgt {fuel:Nat} (hge:1099511627776≤fuel) {i:Nat} (hi:i<a.zD.length) :
  ∃ t:Nat,Qbx (fun k9 (to8:Int)=>(((if (to8<(a.zD.length:Int)) then ((getO a.zD to8).bind fun x11=>((getO a.zD (i:Int)).bind fun x13=>some (x11.From==x13.From))) else some false)).bind fun (x15:Bool)=>(if x15 then k9 (IntKind.wrap .i64 (to8+1)) else some to8))) fuel (i:Int)=some (t:Int)∧i<t∧t≤a.zD.length∧(∀ j (hj:j<a.zD.length),i≤j→j<t→a.zD[j].From=a.zD[i].From)∧∀ j (hj:j<a.zD.length),t≤j→a.zD[i].From<a.zD[j].From:=by
 have hb:a.zD.length<1000000000000:=h.small.1.2.2;have:=Qdb (F:=fun k9 (to8:Int)=>(((if (to8<(a.zD.length:Int)) then ((getO a.zD to8).bind fun x11=>((getO a.zD (i:Int)).bind fun x13=>some (x11.From==x13.From))) else some false)).bind fun (x15:Bool)=>(if x15 then k9 (IntKind.wrap .i64 (to8+1)) else some to8))) (fun x:Int=>∃ j:Nat,x=(j:Int)∧i≤j∧j≤a.zD.length∧∀ m (hm:m<a.zD.length),i≤m→m<j→a.zD[m].From=a.zD[i].From) (fun x=>a.zD.length-x.toNat) (fun x r=>∃ t:Nat,r=some (t:Int)∧x≤t∧t≤a.zD.length∧(x=(i:Int)→i<t)∧(∀ j (hj:j<a.zD.length),i≤j→j<t→a.zD[j].From=a.zD[i].From)∧∀ j (hj:j<a.zD.length),t≤j→a.zD[i].From<a.zD[j].From) (fun k x hx ih=>?_) fuel (i:Int) ⟨i,rfl,by omega,by omega,fun m _ h1 h2=>by omega⟩ (by omega)
 ·obtain ⟨t,h1,h2,h3,h4,h5⟩:=this;exact ⟨t,h1,h4 rfl,h3,h5⟩
 obtain ⟨j,rfl,hj,hj2,hrun⟩:=hx;by_cases hlt:j<a.zD.length
 ·rw [if_pos (by omega),Q6 hlt,Q6 hi,Option.bind_some,Option.bind_some,Option.bind_some];cases he:(a.zD[j].From==a.zD[i].From) with
  | true =>
   rw [if_pos rfl,Qbi (by omega)];obtain ⟨t,h1,h2,h3,h4,h5⟩:=ih ((j+1:Nat):Int) ⟨j+1,rfl,by omega,by omega,fun m hm q1 q2=>by
    by_cases e:m=j
    ·subst e;exact eq_of_beq he
    ·exact hrun m hm q1 (by omega)⟩ (by omega)
   exact ⟨t,h1,by omega,h3,fun _=>by omega,h5⟩
  | false =>
   rw [if_neg (by simp)];have hne:a.zD[j].From≠a.zD[i].From:=by simpa using he
   refine ⟨j,rfl,by omega,by omega,fun e=>?_,hrun,fun m hm q1=>?_⟩
   ·have:j=i:=by omega
    subst this;exact absurd rfl hne
   ·have q2:=Qbe6 h hlt hm q1;have q3:=Qbe6 h hi hlt hj;omega
 ·rw [if_neg (by omega),Option.bind_some,if_neg (by simp)];exact ⟨j,rfl,by omega,by omega,fun e=>by omega,hrun,fun m hm q1=>by omega⟩
def Q0c (a:Qa) (i:Nat):List (List Qb):=(upto a.zF).map fun s=>(a.zD.take i).filter fun x=>x.From==s
omit h in
theorem Qwz (i:Nat):(Q0c a i).length=a.zF.toNat:=by simp [Q0c,Q0a]
theorem Q81:Qi8 a=some ((upto a.zF).map (outP a)):=by
 unfold Qi8 Qc1;rw [Qbho h,Option.bind_some];obtain ⟨fuel,hfu,hge⟩ : ∃ f,Q5=f∧1099511627776≤f:=⟨_,rfl,Nat.le_refl _⟩;rw [hfu];have hb:a.zD.length<1000000000000:=h.small.1.2.2;have hst:=h.st
 suffices hs:Qbx (fun k6 ((xfrom4,c5):Int×(List (List Qb)))=>(if (xfrom4<(a.zD.length:Int)) then ((Qbx (fun k9 (to8:Int)=>(((if (to8<(a.zD.length:Int)) then ((getO a.zD to8).bind fun x11=>((getO a.zD xfrom4).bind fun x13=>some (x11.From==x13.From))) else some false)).bind fun (x15:Bool)=>(if x15 then k9 (IntKind.wrap .i64 (to8+1)) else some to8))) fuel xfrom4).bind fun (to17:Int)=>((getO a.zD xfrom4).bind fun x18=>((slcO a.zD xfrom4 to17).bind fun x20=>((inO (Int.toNat a.zF) x18.From).bind fun u22=>((setO c5 x18.From x20).bind fun x24=>k6 (to17,x24)))))) else some c5)) fuel (0,List.replicate a.zF.toNat [])=some ((upto a.zF).map (outP a)) by
  rw [hs,Option.bind_some,Q4d (by simp [Q0a])];rfl
 have h0:List.replicate a.zF.toNat ([]:List Qb)=Q0c a 0:=by
  refine List.ext_getElem (by simp [Qwz]) fun n h1 h2=>?_;simp [Q0c]
 refine Qdb (fun x:Int×List (List Qb)=>∃ i:Nat,x.1=(i:Int)∧i≤a.zD.length∧x.2=Q0c a i∧∀ j m (hj:j<a.zD.length) (hm:m<a.zD.length),j<i→i≤m→a.zD[j].From<a.zD[m].From) (fun x=>a.zD.length-x.1.toNat) (fun _ r=>r=some ((upto a.zF).map (outP a))) (fun k x hx ih=>?_) fuel (0,List.replicate a.zF.toNat []) ⟨0,rfl,by omega,h0,fun j m _ _ q=>by omega⟩ (by simp only;omega);obtain ⟨x,c⟩:=x;obtain ⟨i,h1,hi,hl,hbd⟩:=hx;simp only at h1 hl;subst h1 hl;dsimp only;by_cases hlt:i<a.zD.length
 ·obtain ⟨t,ht,ht1,ht2,ht3,ht4⟩:=Qbgt h hge hlt;have he:=h.ed0 a.zD[i] (List.getElem_mem hlt);obtain ⟨m,hme⟩ : ∃ m:Nat,a.zD[i].From=(m:Int):=⟨a.zD[i].From.toNat,by omega⟩;have hlr:=Qwz (a:=a) i;rw [if_pos (by omega),ht,Option.bind_some,Q6 hlt,Option.bind_some,Q2h (Nat.le_of_lt ht1) ht2,Option.bind_some,Q8u (by omega) (by omega),Option.bind_some,hme,Q4f (by omega),Option.bind_some];refine ih _ ⟨t,rfl,ht2,?_,fun j n hj hn q1 q2=>?_⟩ (by simp only;omega)
  ·refine List.ext_getElem (by simp [Qwz]) fun n q1 q2=>?_;simp only [List.length_set,Qwz] at q1;have hsl:∀ x∈(a.zD.take t).drop i,x.From=(m:Int):=fun x hx=>by
    obtain ⟨j,hj,rfl⟩:=List.getElem_of_mem hx;simp only [List.length_drop,List.length_take] at hj;simp only [List.getElem_drop,List.getElem_take];rw [← hme];exact ht3 (i+j) (by omega) (by omega) (by omega)
   have hpre:∀ x∈a.zD.take i,x.From<(m:Int):=fun x hx=>by
    obtain ⟨j,hj,rfl⟩:=List.getElem_of_mem hx;simp only [List.length_take] at hj;simp only [List.getElem_take];rw [← hme];exact hbd j i (by omega) hlt (by omega) (by omega)
   rw [List.getElem_set];have hr:(Q0c a t)[n]'q2=(a.zD.take i).filter (fun x=>x.From==(n:Int))++((a.zD.take t).drop i).filter (fun x=>x.From==(n:Int)):=by
    simp only [Q0c,List.getElem_map,Q2j];rw [Q80 a.zD (Nat.le_of_lt ht1),List.filter_append,← Q80 a.zD (Nat.le_of_lt ht1)]
   rw [hr];by_cases hnm:m=n
   ·subst hnm;rw [if_pos rfl];have e1:(a.zD.take i).filter (fun x=>x.From==(m:Int))=[]:=by
     rw [List.filter_eq_nil_iff];intro x hx;have:=hpre x hx;simp;omega
    have e2:((a.zD.take t).drop i).filter (fun x=>x.From==(m:Int))=(a.zD.take t).drop i:=by
     rw [List.filter_eq_self];intro x hx;simp [hsl x hx]
    rw [e1,e2];rfl
   ·rw [if_neg hnm];have e2:((a.zD.take t).drop i).filter (fun x=>x.From==(n:Int))=[]:=by
     rw [List.filter_eq_nil_iff];intro x hx;have:=hsl x hx;simp;omega
    rw [e2,List.append_nil];simp only [Q0c,List.getElem_map,Q2j]
  ·by_cases q3:j<i
   ·exact hbd j n hj hn q3 (by omega)
   ·rw [ht3 j hj (by omega) (by omega)];exact ht4 n hn q2
 ·rw [if_neg (by omega)];have:i=a.zD.length:=by omega
  subst this;unfold Q0c;rw [List.take_length];rfl
end
def Qs2 (cl:List Int) (r:List Qb):List Int:=r.flatMap fun x=>[hiB x.Event,loB x.Event,hiB (ati cl x.To),loB (ati cl x.To)]
theorem Qp6 (cl:List Int) (x:Qb) (r:List Qb):Qs2 cl (x::r)=hiB x.Event::loB x.Event::hiB (ati cl x.To)::loB (ati cl x.To)::Qs2 cl r:=rfl
theorem Q50 (cl:List Int):∀ r:List Qb,(Qs2 cl r).length=4*r.length
 | []=>rfl
 | x::r=>by rw [Qp6];simp only [List.length_cons,Q50 cl r];omega
theorem Qbe7 {v w:Int} (hv:0≤v∧v<65536) (hw:0≤w∧w<65536) (h1:UInt8.ofNat (hiB v).toNat=UInt8.ofNat (hiB w).toNat) (h2:UInt8.ofNat (loB v).toNat=UInt8.ofNat (loB w).toNat):v=w:=by
 rw [Qbbq hv,Qbbq hw] at h1;rw [Qbbr hv,Qbbr hw] at h2;have a:=Q0b (x:=v / 256) (y:=w / 256) (by omega) (by omega) h1;have b:=Q0b (x:=v % 256) (y:=w % 256) (by omega) (by omega) h2;omega
def Qbiz (cl:List Int) (r:List Qb):Prop:=∀ x∈r,(0≤x.Event∧x.Event<65536)∧(0≤ati cl x.To∧ati cl x.To<65536)
theorem Q51 {cl:List Int}:∀ {r r' : List Qb},Qbiz cl r→Qbiz cl r'→(Qs2 cl r).map (fun n=>UInt8.ofNat n.toNat)=(Qs2 cl r').map (fun n=>UInt8.ofNat n.toNat)→r.map (fun x=>(x.Event,ati cl x.To))=r'.map fun x=>(x.Event,ati cl x.To)
 | [],[],_,_,_=>rfl
 | [],y::r',_,_,h=>by rw [Qp6] at h;cases h
 | x::r,[],_,_,h=>by rw [Qp6] at h;cases h
 | x::r,y::r',h1,h2,h=>by
  rw [Qp6,Qp6] at h;simp only [List.map_cons,List.cons.injEq] at h;obtain ⟨a1,a2,a3,a4,a5⟩:=h;obtain ⟨b1,b2⟩:=h1 x (by simp);obtain ⟨c1,c2⟩:=h2 y (by simp);rw [List.map_cons,List.map_cons,Qbe7 b1 c1 a1 a2,Qbe7 b2 c2 a3 a4,Q51 (fun z hz=>h1 z (by simp [hz])) (fun z hz=>h2 z (by simp [hz])) a5]
theorem Qbi0 {a:Qa} (h:Right a) {cl:List Int} (hcl:cl.length=a.zF.toNat) {s:Nat} (hs:s<a.zF.toNat) :
  Qgh (s:Int) cl ((upto a.zF).map (outP a))=some (strB (hiB (ati cl s)::loB (ati cl s)::Qs2 cl (outP a s))):=by
 unfold Qgh Qdw;have hv:ati cl s=cl[s]'(by omega):=by simp [ati,at0,List.getD_eq_getElem?_getD,show s<cl.length from by omega]
 have hul:((upto a.zF).map (outP a)).length=a.zF.toNat:=by simp [Q0a]
 rw [Q6 (by omega:s<cl.length),Option.bind_some,Qwn (by simp),Option.bind_some,Q6 (by omega:s<((upto a.zF).map (outP a)).length),Option.bind_some,← hv];have hrow:((upto a.zF).map (outP a))[s]'(by omega)=outP a s:=by simp only [List.getElem_map,Q2j]
 rw [hrow];obtain ⟨fuel,hfu,hge⟩ : ∃ f,Q5=f∧1099511627776≤f:=⟨_,rfl,Nat.le_refl _⟩;rw [hfu];have hr2:∀ x∈outP a s,x∈a.zD:=fun x hx=>(List.mem_filter.1 hx).1;have hl:(outP a s).length≤a.zD.length:=List.length_filter_le _ _;have hl2:=h.small.2.2.2;generalize outP a s=row at hr2 hl ⊢;generalize ati cl s=v
 suffices hs:Qbx (fun k16 ((key14,x15):(List Int)×Int)=>(if (x15<(row.length:Int)) then ((getO row x15).bind fun x18=>((Qfe key14 x18.Event).bind fun x21=>((getO cl x18.To).bind fun x22=>((Qfe x21 x22).bind fun x25=>k16 (x25,(IntKind.wrap .i64 (x15+1))))))) else some key14)) fuel ([]++[hiB v,loB v],0)=some (hiB v::loB v::Qs2 cl row) by
  rw [hs];rfl
 refine Qdb (fun x:List Int×Int=>∃ (j:Nat),x.2=(j:Int)∧j≤row.length∧x.1=hiB v::loB v::Qs2 cl (row.take j)) (fun x=>row.length-x.2.toNat) (fun _ r=>r=some (hiB v::loB v::Qs2 cl row)) (fun k x hx ih=>?_) fuel ([]++[hiB v,loB v],0) ⟨0,rfl,by omega,rfl⟩ (by simp only;omega);obtain ⟨x,i⟩:=x;obtain ⟨j,h1,hj,h2⟩:=hx;simp only at h1 h2;subst h1 h2;dsimp only;by_cases hlt:j<row.length
 ·have he:=h.ed0 row[j] (hr2 _ (List.getElem_mem hlt));obtain ⟨m,hme⟩ : ∃ m:Nat,row[j].To=(m:Int):=⟨row[j].To.toNat,by omega⟩;have hlen:=Q50 cl (row.take j);have hlt2:(row.take j).length≤j:=by simp;omega
  have hcm:cl[m]'(by omega)=ati cl row[j].To:=by rw [hme];simp [ati,at0,List.getD_eq_getElem?_getD,show m<cl.length from by omega]
  rw [if_pos (by omega),Q6 hlt,Option.bind_some,Qwn (by simp;omega),Option.bind_some,hme,Q6 (by omega:m<cl.length),Option.bind_some,Qwn (by simp;omega),Option.bind_some,Qbi (by omega)];refine ih _ ⟨j+1,rfl,by omega,?_⟩ (by simp only;omega);simp only [hcm];rw [List.take_succ_eq_append_getElem hlt];unfold Qs2;rw [List.flatMap_append];simp
 ·rw [if_neg (by omega)];have:j=row.length:=by omega
  subst this;rw [List.take_length]
end Go.Abs
end
section
namespace Go.Abs
open Go
def edC (cl:List Int) (x:Qb):Int×Int:=(x.Event,ati cl x.To)
def Cons (a:Qa) (cl:List Int):Prop:=∀ s t:Nat,s<a.zF.toNat→t<a.zF.toNat→ati cl (s:Int)=ati cl (t:Int)→(outP a s).map (edC cl)=(outP a t).map (edC cl)
theorem Qbe8 {σ σ' : Nat→ByteArray} {N:Nat} {c c' : List (ByteArray×Int)} {l l' : List Int} (h:RefI σ N N c l) (h' : RefI σ' N N c' l') (hf:∀ j j',j<N→j'<N→σ' j=σ' j'→σ j=σ j') (hc:c'.length=c.length) {x y:Nat} (hx:x<N) (hy:y<N) (he:ati l (x:Int)=ati l (y:Int)):ati l' (x:Int)=ati l' (y:Int):=by
 rw [h.ati hx,h.ati hy] at he;rw [h'.ati hx,h'.ati hy];refine Classical.byContradiction fun hne=>?_;have hrx:=h.rng x hx;obtain ⟨m0,hm0⟩ : ∃ m0:Nat,getM c (σ x) 0=(m0:Int):=⟨(getM c (σ x) 0).toNat,by omega⟩;have key:∀ j j',j<N→j'<N→getM c' (σ' j) 0=getM c' (σ' j') 0→getM c (σ j) 0=getM c (σ j') 0:=fun j j' hj hj' e=>by rw [hf j j' hj hj' (h'.inj j j' hj hj' e)]
 have:=Q8x (k:=c.length+1) (k':=c'.length) (fun m v=>(m<c.length∧m≠m0∧∃ j,j<N∧getM c (σ j) 0=(m:Int)∧getM c' (σ' j) 0=(v:Int))∨(m=m0∧m<c.length∧getM c' (σ' x) 0=(v:Int))∨(m=c.length∧getM c' (σ' y) 0=(v:Int))) (fun m hm=>?_) (fun m m' v hm hm' h1 h2=>?_)
 ·omega
 ·by_cases h1:m=c.length
  ·have hr:=h'.rng y hy;exact ⟨(getM c' (σ' y) 0).toNat,by omega,.inr (.inr ⟨h1,by omega⟩)⟩
  ·by_cases h2:m=m0
   ·have hr:=h'.rng x hx;exact ⟨(getM c' (σ' x) 0).toNat,by omega,.inr (.inl ⟨h2,by omega,by omega⟩)⟩
   ·obtain ⟨j,hj,e⟩:=h.sur m (by omega);have hr:=h'.rng j hj;exact ⟨(getM c' (σ' j) 0).toNat,by omega,.inl ⟨by omega,h2,j,hj,e,by omega⟩⟩
 ·rcases h1 with ⟨q1,q2,j,hj,e1,e2⟩|⟨q1,q2,e2⟩|⟨q1,e2⟩<;>rcases h2 with ⟨p1,p2,i,hi,f1,f2⟩|⟨p1,p2,f2⟩|⟨p1,f2⟩
  ·have:=key j i hj hi (by omega);omega
  ·have:=key j x hj hx (by omega);omega
  ·have:=key j y hj hy (by omega);omega
  ·have:=key x i hx hi (by omega);omega
  ·omega
  ·omega
  ·have:=key y i hy hi (by omega);omega
  ·omega
  ·omega
theorem Q82 {a:Qa} (h:Right a):∃ cl,Qji a=some cl∧cl.length=a.zF.toNat∧(∀ j:Nat,j<a.zF.toNat→0≤ati cl j∧ati cl j<a.zF.toNat)∧Cons a cl:=by
 unfold Qji Qeq;obtain ⟨b,hb,hbl⟩:=Qbbp h;rw [hb,Option.bind_some,Q81 h,Option.bind_some];have hst:=h.st;have hN:((a.zF.toNat:Nat):Int)=a.zF:=by omega
 have hN2:a.zF.toNat≤4096:=by omega
 have h1:∀ j:Nat,j<a.zF.toNat→(fun a6=>Qgg a6 b) (j:Int)=some (if b.getD j false then (⟨#[109]⟩ : ByteArray) else ⟨#[]⟩):=fun j hj=>by
  simp only;unfold Qgg Qdv;rw [Q6 (by omega:j<b.length),Option.bind_some];have:b.getD j false=b[j]'(by omega):=by simp [List.getD_eq_getElem?_getD,show j<b.length from by omega]
  rw [this];cases b[j]'(by omega)<;>rfl
 obtain ⟨c0,l0,e0,r0⟩:=Q8w (sig:=fun a6=>Qgg a6 b) (σ:=fun j=>if b.getD j false then (⟨#[109]⟩ : ByteArray) else ⟨#[]⟩) hN2 h1;rw [hN] at e0;rw [e0,Option.bind_some];dsimp only;obtain ⟨fuel,hfu,hge⟩ : ∃ f,Q5=f∧1099511627776≤f:=⟨_,rfl,Nat.le_refl _⟩;rw [hfu];refine Qdb (fun x:Int×List Int=>∃ (σ:Nat→ByteArray) (c:List (ByteArray×Int)),x.1=(c.length:Int)∧RefI σ a.zF.toNat a.zF.toNat c x.2) (fun x=>a.zF.toNat-x.1.toNat) (fun _ r=>∃ cl,r=some cl∧cl.length=a.zF.toNat∧(∀ j:Nat,j<a.zF.toNat→0≤ati cl j∧ati cl j<a.zF.toNat)∧Cons a cl) (fun k x hx ih=>?_) fuel ((c0.length:Int),l0) ⟨_,c0,rfl,r0⟩ (by simp only;omega);obtain ⟨n,cl⟩:=x;obtain ⟨σ,c,e1,r1⟩:=hx;simp only at e1 r1;subst e1;dsimp only;have hcl:=r1.len;have hrange:∀ j:Nat,j<a.zF.toNat→0≤ati cl j∧ati cl j<65536:=fun j hj=>by
  have:=r1.rng j hj;have:=r1.cnt;rw [r1.ati hj];omega
 have hrow:∀ j:Nat,Qbiz cl (outP a j):=fun j x hx=>by
  have he:=h.ed0 x (List.mem_filter.1 hx).1;have ha:=h.al0 x.Event he.2.2.2.2;have:=hrange x.To.toNat (by omega);rw [show ((x.To.toNat:Nat):Int)=x.To from by omega] at this;exact ⟨by omega,this⟩
 obtain ⟨c2,l2,e2,r2⟩:=Q8w (sig:=fun a15=>Qgh a15 cl ((upto a.zF).map (outP a))) (σ:=fun j=>strB (hiB (ati cl j)::loB (ati cl j)::Qs2 cl (outP a j))) hN2 (fun j hj=>Qbi0 h hcl hj);rw [hN] at e2;rw [e2,Option.bind_some];have hfin:∀ j j' : Nat,j<a.zF.toNat→j'<a.zF.toNat→strB (hiB (ati cl j)::loB (ati cl j)::Qs2 cl (outP a j))=strB (hiB (ati cl j')::loB (ati cl j')::Qs2 cl (outP a j'))→σ j=σ j':=fun j j' hj hj' e=>by
  have:=Qbiy (hrange j hj) (hrange j' hj') e;rw [r1.ati hj,r1.ati hj'] at this;exact r1.inj j j' hj hj' this
 have hle:c.length≤c2.length:=r1.finer r2 hfin;dsimp only;by_cases he:((c2.length:Int)==(c.length:Int))=true
 ·rw [if_pos he];have hcc:c2.length=c.length:=by have:=eq_of_beq he;omega
  refine ⟨l2,rfl,r2.len,fun j hj=>?_,fun s t hs ht e=>?_⟩
  ·have:=r2.rng j hj;have:=r2.cnt;rw [r2.ati hj];omega
  ·rw [r2.ati hs,r2.ati ht] at e;have e3:=r2.inj s t hs ht e;have e4:=congrArg (fun b:ByteArray=>b.data.toList) e3;simp only [Q8z,List.map_cons,List.cons.injEq] at e4;have e5:=Q51 (hrow s) (hrow t) e4.2.2;have g:∀ r r' : List Qb,(∀ x∈r,0≤x.To∧x.To<a.zF)→(∀ x∈r',0≤x.To∧x.To<a.zF)→r.map (fun x=>(x.Event,ati cl x.To))=r'.map (fun x=>(x.Event,ati cl x.To))→r.map (edC l2)=r'.map (edC l2):=by
    intro r
    induction r with
    | nil=>intro r' _ _ q;cases r' with
     | nil=>rfl
     | cons y r'=>cases q
    | cons x r ihr=>intro r' hr hr' q;cases r' with
     | nil=>cases q
     | cons y r' =>
      simp only [List.map_cons,List.cons.injEq,Prod.mk.injEq] at q;obtain ⟨⟨q1,q2⟩,q3⟩:=q;have hx:=hr x (by simp);have hy:=hr' y (by simp);have:=Qbe8 r1 r2 hfin hcc (x:=x.To.toNat) (y:=y.To.toNat) (by omega) (by omega) (by rw [show ((x.To.toNat:Nat):Int)=x.To from by omega,show ((y.To.toNat:Nat):Int)=y.To from by omega];exact q2);rw [show ((x.To.toNat:Nat):Int)=x.To from by omega,show ((y.To.toNat:Nat):Int)=y.To from by omega] at this;rw [List.map_cons,List.map_cons,ihr r' (fun z hz=>hr z (by simp [hz])) (fun z hz=>hr' z (by simp [hz])) q3];unfold edC;rw [q1,this]
   have hto:∀ (j:Nat),∀ x∈outP a j,0≤x.To∧x.To<a.zF:=fun j x hx=>by
    have he:=h.ed0 x (List.mem_filter.1 hx).1;exact ⟨he.2.2.1,he.2.2.2.1⟩
   exact g _ _ (hto s) (hto t) e5
 ·rw [if_neg he];have hne:c2.length≠c.length:=fun e=>he (by simp [e]);have:=r2.cnt;exact ih _ ⟨_,c2,rfl,r2⟩ (by simp only;omega)
end Go.Abs
end
section
namespace Go.Abs
open Go
theorem Qbi1 (x y:Int):Qkc x y=some (decide (x<y)):=by
 unfold Qkc Qf6 Qpx Qex;simp
theorem Qbgu (x:Int):Qis x=some false:=by
 unfold Qis Qdp;simp
theorem Qbe9 {l:List Int} (h:l.Pairwise (· < ·)) (v:Int):l.Pairwise fun a b=>decide (b<v)=true→decide (a<v)=true :=
 h.imp fun h=>by simp;omega
theorem Q83 {l:List Int} {v:Int} (hs:l.Pairwise (· < ·)) (hl:l.length<big):∃ n,Qcp l v=some (n,decide (v∈l)):=by
 have hc:=fun n h=>Q09 (p:=fun x:Int=>decide (x<v)) (Qbe9 hs v) n h;have hcl:(l.filter fun x=>decide (x<v)).length≤l.length:=List.length_filter_le _ _;generalize (l.filter fun x=>decide (x<v)).length=c at hc hcl;have hb:l.length<1000000000000:=hl;unfold Qcp Q1;obtain ⟨fuel,hfu,hge⟩ : ∃ f,Q5=f∧1099511627776≤f:=⟨_,rfl,Nat.le_refl _⟩;rw [hfu];have hloop:=Qdb (F:=fun (k5:Int×Int→Option Int) ((i3,j4):Int×Int)=>(if (i3<j4) then ((getO l (IntKind.wrap .i64 (Int.fdiv (IntKind.wrap .u64 (IntKind.wrap .i64 (i3+j4))) (2 ^ (min (Int.toNat 1) (IntKind.bits .u64)))))).bind fun x7=>((Qkc x7 v).bind fun x10=>(if x10 then k5 ((IntKind.wrap .i64 ((IntKind.wrap .i64 (Int.fdiv (IntKind.wrap .u64 (IntKind.wrap .i64 (i3+j4))) (2 ^ (min (Int.toNat 1) (IntKind.bits .u64)))))+1)),j4) else k5 (i3,(IntKind.wrap .i64 (Int.fdiv (IntKind.wrap .u64 (IntKind.wrap .i64 (i3+j4))) (2 ^ (min (Int.toNat 1) (IntKind.bits .u64))))))))) else some i3))
  (fun x=>∃ i j:Nat,x=((i:Int),(j:Int))∧i≤c∧c≤j∧j≤l.length) (fun x=>(x.2-x.1).toNat) (fun _ r=>r=some (c:Int)) (by
   rintro k _ ⟨i,j,rfl,h1,h2,h3⟩ ih;dsimp only;by_cases hij:i<j
   ·rw [if_pos (by omega),Qbhl (by omega) (by omega)];have hm:(i+j) / 2<l.length:=by omega
    rw [Q6 hm];simp only [Option.bind_some];rw [Qbi1];simp only [Option.bind_some];have hcm:=hc ((i+j) / 2) hm;by_cases hlt:l[(i+j) / 2]<v
    ·rw [if_pos (by simpa using hlt),Qbi (by omega)];have:(i+j) / 2<c:=hcm.1 (by simpa using hlt);exact ih _ ⟨_,_,rfl,by omega,h2,h3⟩ (by simp only;omega)
    ·rw [if_neg (by simpa using hlt)];have:¬ (i+j) / 2<c:=fun h=>hlt (by simpa using hcm.2 h);exact ih _ ⟨_,_,rfl,h1,by omega,by omega⟩ (by simp only;omega)
   ·rw [if_neg (by omega)];have:i=c:=by omega
    rw [this]) fuel (0,(l.length:Int)) ⟨0,l.length,rfl,by omega,hcl,Nat.le_refl _⟩ (by simp only;omega)
 rw [hloop];simp only [Option.bind_some];have hmem:v∈l↔∃ h:c<l.length,l[c]=v:=by
  constructor
  ·intro hv;obtain ⟨j,hj,rfl⟩:=List.getElem_of_mem hv;have h1:¬ j<c:=fun h=>by have:=(hc j hj).2 h;simp at this
   have h2:c<l.length:=by omega
   refine ⟨h2,?_⟩;have h3:¬ l[c]<l[j]:=fun h=>by have:=(hc c h2).1 (by simpa using h);omega
   rcases Nat.lt_or_ge c j with h|h
   ·have:=List.pairwise_iff_getElem.1 hs c j h2 hj h;omega
   ·have:c=j:=by omega
    subst this;rfl
  ·rintro ⟨h,rfl⟩;exact List.getElem_mem h
 by_cases hlt:c<l.length
 ·rw [if_pos (by omega),Q6 hlt];simp only [Option.bind_some];by_cases he:l[c]=v
  ·rw [if_pos (by simpa using he)];exact ⟨_,by rw [decide_eq_true (hmem.2 ⟨hlt,he⟩)]⟩
  ·rw [if_neg (by simpa using he),Qbgu];exact ⟨_,by rw [decide_eq_false (fun h=>he (hmem.1 h).2)];rfl⟩
 ·rw [if_neg (by omega)];exact ⟨_,by rw [decide_eq_false (fun h=>hlt (hmem.1 h).1)]⟩
theorem Q61 {l:List Int} (hl:l.length≤lim):Qbz l=some l:=by
 unfold Qbz Qk;rw [Qck (by simpa using hl)];cases l<;>simp [nilO]
structure Num (a:Qa) (o num:List Int):Prop where
 len:num.length=a.zF.toNat
 at1:∀ s:Nat,s<a.zF.toNat→num[s]? = some (if (s:Int)∈o then (o.idxOf (s:Int):Int) else -1)
theorem Q4g {o F:List Int} (h:o <+: F) {t:Int} (ht:t∈o):F.idxOf t=o.idxOf t:=by
 obtain ⟨r,rfl⟩:=h;rw [List.idxOf_append,if_pos ht]
theorem Num.get {a:Qa} {o num:List Int} (h:Num a o num) {t:Int} (ht:0≤t∧t<a.zF):getO num t=some (if t∈o then (o.idxOf t:Int) else -1):=by
 rw [Q38];refine ⟨ht.1,?_⟩;have:=h.at1 t.toNat (by omega)
 rwa [show ((t.toNat:Nat):Int)=t from by omega] at this
theorem Num.set {a:Qa} {o num:List Int} (h:Num a o num) {t:Int} (ht:0≤t∧t<a.zF) (hn:t∉o):∃ num',setO num t (o.length:Int)=some num'∧Num a (o++[t]) num':=by
 refine ⟨num.set t.toNat (o.length:Int),by unfold setO;rw [if_pos ⟨ht.1,by rw [h.len];omega⟩],by rw [List.length_set];exact h.len,fun s hs=>?_⟩;rw [List.getElem?_set];by_cases he:t.toNat=s
 ·subst he;rw [if_pos rfl,if_pos (by rw [h.len];omega),show ((t.toNat:Nat):Int)=t from by omega,if_pos (by simp),List.idxOf_append,if_neg hn];simp
 ·rw [if_neg he,h.at1 s hs];have hne:(s:Int)≠t:=by omega
  by_cases hm:(s:Int)∈o
  ·rw [if_pos hm,if_pos (by simp [hm]),List.idxOf_append,if_pos hm]
  ·rw [if_neg hm,if_neg (by simp [hm,hne])]
section
variable {a:Qa} (h:Right a)
include h
theorem Qbfa (fuel:Nat) (hfu:1099511627776≤fuel) {l:List Qb} (hl:l.length≤200000) (hto:∀ x∈l,0≤x.To∧x.To<a.zF) {i:Nat} {ms o:List Int} {es:List Qb} {num:List Int} (ho:Fnd a o) (hn:Num a o num) (hes:es.length≤200000) :
  ∃ num',Num a ((l.map (·.To)).foldl ins o) num'∧Qbx (fun (k47:List Int×Int×List Qb×List Int→Option (List Int×List Int×List Qb×List Int)) ((order43,x44,r45,c46):(List Int)×Int×(List Qb)×(List Int))=>(if (x44<(l.length:Int)) then ((getO l x44).bind fun x49=>((((inO (Int.toNat a.zF) x49.To).bind fun u51=>((getO c46 x49.To).bind fun x53=>(if (x53<0) then ((inO (Int.toNat a.zF) x49.To).bind fun u56=>((setO c46 x49.To (order43.length:Int)).bind fun x58=>((appO order43 [x49.To]).bind fun x60=>some (x60,x58)))) else some (order43,c46))))).bind fun ((order62,c63):(List Int)×(List Int))=>((inO (Int.toNat a.zF) x49.To).bind fun u64=>((getO c63 x49.To).bind fun x66=>((appO r45 [(Qb.mk (i:Int) x49.Event x66)]).bind fun x68=>k47 (order62,(IntKind.wrap .i64 (x44+1)),x68,c63)))))) else some (order43,ms,r45,c46))) fuel (o,0,es,num)=some ((l.map (·.To)).foldl ins o,ms,es++l.map (fun x=>⟨(i:Int),x.Event,(((l.map (·.To)).foldl ins o).idxOf x.To:Int)⟩),num'):=by
 have hst:=h.st;have key:=Qdb (F:=(fun (k47:List Int×Int×List Qb×List Int→Option (List Int×List Int×List Qb×List Int)) ((order43,x44,r45,c46):(List Int)×Int×(List Qb)×(List Int))=>(if (x44<(l.length:Int)) then ((getO l x44).bind fun x49=>((((inO (Int.toNat a.zF) x49.To).bind fun u51=>((getO c46 x49.To).bind fun x53=>(if (x53<0) then ((inO (Int.toNat a.zF) x49.To).bind fun u56=>((setO c46 x49.To (order43.length:Int)).bind fun x58=>((appO order43 [x49.To]).bind fun x60=>some (x60,x58)))) else some (order43,c46))))).bind fun ((order62,c63):(List Int)×(List Int))=>((inO (Int.toNat a.zF) x49.To).bind fun u64=>((getO c63 x49.To).bind fun x66=>((appO r45 [(Qb.mk (i:Int) x49.Event x66)]).bind fun x68=>k47 (order62,(IntKind.wrap .i64 (x44+1)),x68,c63)))))) else some (order43,ms,r45,c46))))
  (fun x=>∃ (j:Nat) (o:List Int) (es:List Qb) (num:List Int),x=(o,(j:Int),es,num)∧j≤l.length∧Fnd a o∧Num a o num∧es.length≤200000+j) (fun x=>l.length-x.2.1.toNat)
  (fun x r=>∀ (j:Nat) (o:List Int) (es:List Qb) (num:List Int),x=(o,(j:Int),es,num)→∃ num',Num a (((l.drop j).map (·.To)).foldl ins o) num'∧r=some (((l.drop j).map (·.To)).foldl ins o,ms,es++(l.drop j).map (fun x=>⟨(i:Int),x.Event,((((l.drop j).map (·.To)).foldl ins o).idxOf x.To:Int)⟩),num')) (by
   rintro k _ ⟨j,o,es,num,rfl,hj,hf,hnm,hel⟩ ih j' o' es' num' he;obtain ⟨rfl,he2⟩:=Prod.mk.inj he;obtain ⟨hjj,he3⟩:=Prod.mk.inj he2;obtain ⟨rfl,rfl⟩:=Prod.mk.inj he3;obtain rfl:j=j':=by omega
   have hfl:=hf.len;dsimp only;by_cases hlt:j<l.length
   ·have ht:=hto _ (List.getElem_mem hlt);rw [if_pos (by omega),Q6 hlt];simp only [Option.bind_some];rw [show inO (Int.toNat a.zF) l[j].To=some () from by unfold inO;rw [if_pos (by omega)]];simp only [Option.bind_some];rw [hnm.get ht];simp only [Option.bind_some];have hfi:=hf.ins ht;have hmem:l[j].To∈ins o l[j].To:=Q6z.2 (.inr rfl);have hpre:ins o l[j].To <+: ((l.drop (j+1)).map (·.To)).foldl ins (ins o l[j].To) :=
     (Qwk hfi fun t ht'=>by obtain ⟨x,hx,rfl⟩:=List.mem_map.1 ht';exact hto x (List.mem_of_mem_drop hx)).2.1
    rw [List.drop_eq_getElem_cons hlt];simp only [List.map_cons,List.foldl_cons];by_cases hm:l[j].To∈o
    ·have e1:ins o l[j].To=o:=by unfold ins;rw [if_pos hm]
     rw [if_pos hm,if_neg (by omega)];simp only [Option.bind_some];rw [hnm.get ht,if_pos hm];simp only [Option.bind_some];rw [Qck (by simp only [List.length_cons,List.length_nil];unfold lim;omega)];simp only [Option.bind_some];rw [Qbi (by omega)];rw [e1] at hpre ⊢;obtain ⟨num',q1,q2⟩:=ih _ ⟨j+1,o,es++[⟨(i:Int),l[j].Event,(o.idxOf l[j].To:Int)⟩],num,rfl,by omega,hf,hnm,by simp only [List.length_append,List.length_cons,List.length_nil];omega⟩ (by simp only;omega) (j+1) _ _ _ rfl;refine ⟨num',q1,?_⟩;rw [q2,Q4g hpre hm];simp only [List.append_assoc,List.cons_append,List.nil_append]
    ·have e1:ins o l[j].To=o++[l[j].To]:=by unfold ins;rw [if_neg hm]
     rw [if_neg hm,if_pos (by omega)];obtain ⟨num1,w1,w2⟩:=hnm.set ht hm;rw [w1];simp only [Option.bind_some];rw [Qck (by simp only [List.length_cons,List.length_nil];unfold lim;omega)];simp only [Option.bind_some];rw [w2.get ht,if_pos (by simp)];simp only [Option.bind_some];rw [Qck (by simp only [List.length_cons,List.length_nil];unfold lim;omega)];simp only [Option.bind_some];rw [Qbi (by omega)];rw [e1] at hpre hfi hmem ⊢;obtain ⟨num',q1,q2⟩:=ih _ ⟨j+1,o++[l[j].To],es++[⟨(i:Int),l[j].Event,((o++[l[j].To]).idxOf l[j].To:Int)⟩],num1,rfl,by omega,hfi,w2,by simp only [List.length_append,List.length_cons,List.length_nil];omega⟩ (by simp only;omega) (j+1) _ _ _ rfl;refine ⟨num',q1,?_⟩;rw [q2,Q4g hpre hmem];simp only [List.append_assoc,List.cons_append,List.nil_append]
   ·rw [if_neg (by omega)];obtain rfl:j=l.length:=by omega
    exact ⟨num,by simpa using hnm,by simp⟩) fuel (o,0,es,num) ⟨0,o,es,num,rfl,Nat.zero_le _,ho,hn,by omega⟩ (by simp only;omega) 0 o es num rfl
 obtain ⟨num',q1,q2⟩:=key;exact ⟨num',by simpa using q1,by simpa using q2⟩
theorem Qbcn (fuel:Nat) (hfu:1099511627776≤fuel) {num:List Int} (h0:0<a.zF) (hn:Num a [0] num) :
  ∃ num',Qbx (fun (k28:List Int×Int×List Int×List Int×List Qb×List Int×List Qb×List Int→Option (List Int×List Int×List Int×List Qb×List Int×List Qb×List Int)) ((order20,i21,c22,c23,c24,r25,r26,c27):(List Int)×Int×(List Int)×(List Int)×(List Qb)×(List Int)×(List Qb)×(List Int))=>(if (i21<(order20.length:Int)) then ((((((getO order20 i21).bind fun x30=>((Qcp a.zC x30).bind fun (r33,r34)=>(if r34 then ((appO r25 [i21]).bind fun x36=>some x36) else some r25)))).bind fun (r38:List Int)=>((getO order20 i21).bind fun x39=>((Qht a x39).bind fun x42=>Qbx (fun k47 ((order43,x44,r45,c46):(List Int)×Int×(List Qb)×(List Int))=>(if (x44<(x42.length:Int)) then ((getO x42 x44).bind fun x49=>((((inO (Int.toNat a.zF) x49.To).bind fun u51=>((getO c46 x49.To).bind fun x53=>(if (x53<0) then ((inO (Int.toNat a.zF) x49.To).bind fun u56=>((setO c46 x49.To (order43.length:Int)).bind fun x58=>((appO order43 [x49.To]).bind fun x60=>some (x60,x58)))) else some (order43,c46))))).bind fun ((order62,c63):(List Int)×(List Int))=>((inO (Int.toNat a.zF) x49.To).bind fun u64=>((getO c63 x49.To).bind fun x66=>((appO r45 [(Qb.mk i21 x49.Event x66)]).bind fun x68=>k47 (order62,(IntKind.wrap .i64 (x44+1)),x68,c63)))))) else some (order43,r38,r45,c46))) fuel (order20,0,r26,c27))))).bind fun ((order70,r71,r72,c73):(List Int)×(List Int)×(List Qb)×(List Int))=>k28 (order70,(IntKind.wrap .i64 (i21+1)),c22,c23,c24,r71,r72,c73)) else some (order20,c22,c23,c24,r25,r26,c27))) fuel ([0],0,[],[],[],[],[],num)=some (Qiy a,[],[],[],Qp4 a.zC 0 (Qiy a),Qp5 a (Qiy a) 0 (Qiy a),num'):=by
 have hst:=h.st;have hs:=h.small.1;have hsb:=h.small.2;have key:=Qdb (F:=(fun (k28:List Int×Int×List Int×List Int×List Qb×List Int×List Qb×List Int→Option (List Int×List Int×List Int×List Qb×List Int×List Qb×List Int)) ((order20,i21,c22,c23,c24,r25,r26,c27):(List Int)×Int×(List Int)×(List Int)×(List Qb)×(List Int)×(List Qb)×(List Int))=>(if (i21<(order20.length:Int)) then ((((((getO order20 i21).bind fun x30=>((Qcp a.zC x30).bind fun (r33,r34)=>(if r34 then ((appO r25 [i21]).bind fun x36=>some x36) else some r25)))).bind fun (r38:List Int)=>((getO order20 i21).bind fun x39=>((Qht a x39).bind fun x42=>Qbx (fun k47 ((order43,x44,r45,c46):(List Int)×Int×(List Qb)×(List Int))=>(if (x44<(x42.length:Int)) then ((getO x42 x44).bind fun x49=>((((inO (Int.toNat a.zF) x49.To).bind fun u51=>((getO c46 x49.To).bind fun x53=>(if (x53<0) then ((inO (Int.toNat a.zF) x49.To).bind fun u56=>((setO c46 x49.To (order43.length:Int)).bind fun x58=>((appO order43 [x49.To]).bind fun x60=>some (x60,x58)))) else some (order43,c46))))).bind fun ((order62,c63):(List Int)×(List Int))=>((inO (Int.toNat a.zF) x49.To).bind fun u64=>((getO c63 x49.To).bind fun x66=>((appO r45 [(Qb.mk i21 x49.Event x66)]).bind fun x68=>k47 (order62,(IntKind.wrap .i64 (x44+1)),x68,c63)))))) else some (order43,r38,r45,c46))) fuel (order20,0,r26,c27))))).bind fun ((order70,r71,r72,c73):(List Int)×(List Int)×(List Qb)×(List Int))=>k28 (order70,(IntKind.wrap .i64 (i21+1)),c22,c23,c24,r71,r72,c73)) else some (order20,c22,c23,c24,r25,r26,c27))))
  (fun x=>∃ (i:Nat) (o ms:List Int) (es:List Qb) (num:List Int),x=(o,(i:Int),[],[],[],ms,es,num)∧i≤o.length∧Fnd a o∧Num a o num∧ms.length≤i∧es.length≤32*i∧(∀ j s,j<i→o[j]? = some s→∀ t∈Ql5 a s,t∈o)) (fun x=>a.zF.toNat+1-x.2.1.toNat)
  (fun x r=>∀ (i:Nat) (o ms:List Int) (es:List Qb) (num:List Int),x=(o,(i:Int),[],[],[],ms,es,num)→∃ num',r=some (bfs a (a.zF.toNat+1-i) i o,[],[],[],ms++Qp4 a.zC i ((bfs a (a.zF.toNat+1-i) i o).drop i),es++Qp5 a (bfs a (a.zF.toNat+1-i) i o) i ((bfs a (a.zF.toNat+1-i) i o).drop i),num')) (by
   rintro k _ ⟨i,o,ms,es,num,rfl,hi,hf,hnm,hml,hel,hcl⟩ ih i' o' ms' es' num' he;obtain ⟨rfl,he2⟩:=Prod.mk.inj he;obtain ⟨hii,he3⟩:=Prod.mk.inj he2;obtain ⟨_,he4⟩:=Prod.mk.inj he3;obtain ⟨_,he5⟩:=Prod.mk.inj he4;obtain ⟨_,he6⟩:=Prod.mk.inj he5;obtain ⟨rfl,he7⟩:=Prod.mk.inj he6;obtain ⟨rfl,rfl⟩:=Prod.mk.inj he7;obtain rfl:i=i':=by omega
   have hfl:=hf.len;dsimp only;by_cases hlt:i<o.length
   ·have hrg:=hf.rg _ (List.getElem_mem hlt);rw [if_pos (by omega),Q6 hlt];simp only [Option.bind_some];obtain ⟨n,hsr⟩:=Q83 (v:=o[i]) h.ma hs.2.1;rw [hsr];simp only [Option.bind_some];rw [Qbj6 h hs (by omega) (by omega)];have hto:∀ x∈outP a o[i],0≤x.To∧x.To<a.zF:=fun x hx=>by
     unfold outP at hx;have:=h.ed0 x (List.mem_filter.1 hx).1;omega
    have hol:(outP a o[i]).length≤200000:=Nat.le_trans (List.length_filter_le _ _) (by omega);have hrow:=Qbbn h (F:=o) (i:=i) (s:=o[i]);have hrl:(outP a o[i]).length≤32:=by simpa [rowP] using hrow
    obtain ⟨q1,q2,q3,_⟩:=Qwk hf (Qyx h o[i]);have hle:=q2.length_le;have hcl' : ∀ j s,j<i+1→((Ql5 a o[i]).foldl ins o)[j]? = some s→∀ t∈Ql5 a s,t∈(Ql5 a o[i]).foldl ins o:=by
     intro j s hj hs' t ht;by_cases hji:j<i
     ·have hjl:j<o.length:=by omega
      have:o[j]? = some s:=by
       have:=Qmw q2 (List.getElem?_eq_getElem hjl);rw [hs'] at this;rw [List.getElem?_eq_getElem hjl];exact this.symm
      exact q2.subset (hcl j s hji this t ht)
     ·obtain rfl:j=i:=by omega
      have:=Qmw q2 (List.getElem?_eq_getElem hlt);rw [hs'] at this;cases this;exact q3 t ht
    have hF:=Q60 h (a.zF.toNat+1-(i+1)) (i+1) ((Ql5 a o[i]).foldl ins o) q1 (by omega) (by omega) hcl';have hget:(bfs a (a.zF.toNat+1-(i+1)) (i+1) ((Ql5 a o[i]).foldl ins o))[i]? = some o[i]:=Qmw (q2.trans hF.2.1) (List.getElem?_eq_getElem hlt);rw [show a.zF.toNat+1-i=(a.zF.toNat+1-(i+1))+1 from by omega,Qbbm hlt];have hdrop:(bfs a (a.zF.toNat+1-(i+1)) (i+1) ((Ql5 a o[i]).foldl ins o)).drop i=o[i]::(bfs a (a.zF.toNat+1-(i+1)) (i+1) ((Ql5 a o[i]).foldl ins o)).drop (i+1):=by
     obtain ⟨w1,w2⟩:=List.getElem?_eq_some_iff.1 hget;rw [List.drop_eq_getElem_cons w1,w2]
    rw [hdrop];simp only [Qp4,Qp5];have hidx:∀ x∈outP a o[i],(bfs a (a.zF.toNat+1-(i+1)) (i+1) ((Ql5 a o[i]).foldl ins o)).idxOf x.To=((Ql5 a o[i]).foldl ins o).idxOf x.To:=fun x hx =>
     Q4g hF.2.1 (q3 x.To (List.mem_map.2 ⟨x,hx,rfl⟩))
    have hrow2:rowP a (bfs a (a.zF.toNat+1-(i+1)) (i+1) ((Ql5 a o[i]).foldl ins o)) i o[i]=(outP a o[i]).map fun x=>⟨(i:Int),x.Event,(((Ql5 a o[i]).foldl ins o).idxOf x.To:Int)⟩ :=
     List.map_congr_left fun x hx=>by rw [hidx x hx]
    rw [hrow2];generalize hFe:bfs a (a.zF.toNat+1-(i+1)) (i+1) ((Ql5 a o[i]).foldl ins o)=F at *
    have hstep:∀ ms1:List Int,ms1.length≤i+1→∃ num',(Option.bind (Qbx (fun (k47:List Int×Int×List Qb×List Int→Option (List Int×List Int×List Qb×List Int)) ((order43,x44,r45,c46):(List Int)×Int×(List Qb)×(List Int))=>(if (x44<((outP a o[i]).length:Int)) then ((getO (outP a o[i]) x44).bind fun x49=>((((inO (Int.toNat a.zF) x49.To).bind fun u51=>((getO c46 x49.To).bind fun x53=>(if (x53<0) then ((inO (Int.toNat a.zF) x49.To).bind fun u56=>((setO c46 x49.To (order43.length:Int)).bind fun x58=>((appO order43 [x49.To]).bind fun x60=>some (x60,x58)))) else some (order43,c46))))).bind fun ((order62,c63):(List Int)×(List Int))=>((inO (Int.toNat a.zF) x49.To).bind fun u64=>((getO c63 x49.To).bind fun x66=>((appO r45 [(Qb.mk (i:Int) x49.Event x66)]).bind fun x68=>k47 (order62,(IntKind.wrap .i64 (x44+1)),x68,c63)))))) else some (order43,ms1,r45,c46))) fuel (o,0,es,num)) fun x=>k (x.1,IntKind.wrap .i64 ((i:Int)+1),[],[],[],x.2.1,x.2.2.1,x.2.2.2))=some (F,[],[],[],ms1++Qp4 a.zC (i+1) (F.drop (i+1)),(es++(outP a o[i]).map (fun x=>⟨(i:Int),x.Event,(((Ql5 a o[i]).foldl ins o).idxOf x.To:Int)⟩))++Qp5 a F (i+1) (F.drop (i+1)),num'):=by
     intro ms1 hms1;obtain ⟨num1,n1,n2⟩:=Qbfa h fuel hfu hol hto (ms:=ms1) (i:=i) hf hnm (es:=es) (by omega);rw [n2];simp only [Option.bind_some];rw [Qbi (by omega)];have hel2:(es++(outP a o[i]).map (fun x=>(⟨(i:Int),x.Event,(((Ql5 a o[i]).foldl ins o).idxOf x.To:Int)⟩ : Qb))).length≤32*(i+1):=by simp only [List.length_append,List.length_map];omega
     have hfin:=ih _ ⟨i+1,(Ql5 a o[i]).foldl ins o,ms1,_,num1,rfl,by omega,q1,n1,hms1,hel2,hcl'⟩ (by simp only;omega) (i+1) _ ms1 _ num1 rfl;rw [hFe] at hfin;exact hfin
    by_cases hm:o[i]∈a.zC
    ·simp only [hm,decide_true,if_true];rw [Qck (by simp only [List.length_cons,List.length_nil];unfold lim;omega)];simp only [Option.bind_some];obtain ⟨num1,n1⟩:=hstep (ms++[(i:Int)]) (by simp only [List.length_append,List.length_cons,List.length_nil];omega);refine ⟨num1,Eq.trans ?_ (n1.trans ?_)⟩
     ·rfl
     ·simp only [List.append_assoc]
    ·simp only [hm,decide_false,Bool.false_eq_true,if_false,Option.bind_some];obtain ⟨num1,n1⟩:=hstep ms (by omega);refine ⟨num1,Eq.trans ?_ (n1.trans ?_)⟩
     ·rfl
     ·simp only [List.append_assoc,List.nil_append]
   ·rw [if_neg (by omega)];obtain rfl:i=o.length:=by omega
    rw [Qbe3];exact ⟨num,by simp [Qp4,Qp5]⟩) fuel ([0],0,[],[],[],[],[],num) ⟨0,[0],[],[],num,rfl,by simp,⟨by simp,fun s hs=>by simp at hs;omega⟩,hn,by simp,by simp,fun j s hj=>by omega⟩ (by simp only;omega) 0 [0] [] [] num rfl
 obtain ⟨num',hk⟩:=key;refine ⟨num',?_⟩;rw [hk];simp [Qiy,h0]
theorem Q4t:Qg7 a=some (Qjb a):=by
 have hst:=h.st;have hsb:=h.small.2;unfold Qg7 Qc6;obtain ⟨fuel,hfu,hge⟩ : ∃ f,Q5=f∧1099511627776≤f:=⟨_,rfl,Nat.le_refl _⟩;rw [hfu,Q61 (by unfold lim;omega),Option.bind_some];by_cases h0:a.zF=0
 ·rw [if_pos (by simpa using h0)];unfold Qjb Qiy;rw [if_neg (by omega)];rw [h0];rfl
 ·rw [if_neg (by simpa using h0),show mkO a.zF (0:Int)=some (List.replicate a.zF.toNat 0) from by unfold mkO;rw [if_pos ⟨by omega,by unfold lim;omega⟩],Option.bind_some];have hfill:=Ql3 (len:=a.zF.toNat) (F:=fun (k9:Int×List Int→Option (List Int)) ((x7,c8):Int×(List Int))=>(if (x7<((Int.toNat a.zF):Int)) then ((inO (Int.toNat a.zF) x7).bind fun u11=>((setO c8 x7 (-1)).bind fun x13=>k9 ((IntKind.wrap .i64 (x7+1)),x13))) else some c8))
   (fun n (c:List Int)=>((n:Int),c)) (fun n c=>c.length=a.zF.toNat∧c.take n=List.replicate n (-1)) (fun _ _=>some (List.replicate a.zF.toNat (-1))) (by
    rintro k n c hn ⟨k1,k2⟩ ih;dsimp only;rw [if_pos (by omega),show inO (Int.toNat a.zF) (n:Int)=some () from by unfold inO;rw [if_pos (by omega)],Option.bind_some,show setO c (n:Int) (-1)=some (c.set n (-1)) from by unfold setO;rw [if_pos ⟨by omega,by rw [k1];simpa using hn⟩];rfl,Option.bind_some,Qbi (by omega)];refine ih _ ⟨by rw [List.length_set];exact k1,?_⟩;rw [List.take_add_one,List.take_set_of_le (Nat.le_refl _),k2,List.getElem?_set_self (by omega)];rw [List.replicate_succ'];rfl) (by
    rintro k c ⟨k1,k2⟩;dsimp only;rw [if_neg (by omega)];rw [← k1,List.take_length,k1] at k2;rw [k2]) fuel 0 (List.replicate a.zF.toNat 0) (Nat.zero_le _) (by omega) ⟨by simp,by simp⟩
  refine (congrArg (fun w=>Option.bind w _) hfill).trans ?_;rw [Option.bind_some,show inO (Int.toNat a.zF) 0=some () from by unfold inO;rw [if_pos (by omega)],Option.bind_some];have hn:Num a [0] ((List.replicate a.zF.toNat (-1)).set 0 0):=⟨by simp,fun s hs=>by
   rw [List.getElem?_set];cases s with
   | zero=>simp;omega
   | succ s=>simp [hs];omega⟩
  rw [show setO (List.replicate a.zF.toNat (-1:Int)) 0 0=some ((List.replicate a.zF.toNat (-1)).set 0 0) from by unfold setO;rw [if_pos ⟨by omega,by simp;omega⟩];rfl,Option.bind_some];obtain ⟨num',hk⟩:=Qbcn h fuel hge (by omega) hn;rw [hk]
  rfl
end
end Go.Abs
end
section
namespace Go.Abs
open Go
theorem Qmx (a b:ByteArray):(a==b)=decide (a=b):=by
 cases a;cases b;rw [Bool.eq_iff_iff];simp only [decide_eq_true_eq,ByteArray.mk.injEq];exact beq_iff_eq (α:=Array UInt8)
theorem Q97 {i j:Nat} (hi:i<10) (hj:j<10) (h:UInt8.ofNat (48+i)=UInt8.ofNat (48+j)):i=j:=by
 have:=congrArg UInt8.toNat h;simp only [UInt8.toNat_ofNat'] at this;omega
theorem Qbhp {i:Nat} (hi:i<10) (h:UInt8.ofNat (48+i)=32):False:=by
 have:=congrArg UInt8.toNat h;simp only [UInt8.toNat_ofNat'] at this;have h32:(32:UInt8).toNat=32:=rfl;omega
theorem Qbi2 {x y:Nat} (hx:x<100) (hy:y<100) {s t:List UInt8} (h:Lib.decDigits x++32::s=Lib.decDigits y++32::t):x=y∧s=t:=by
 by_cases h1:x<10<;>by_cases h2:y<10
 ·rw [Lib.decDigits_one h1,Lib.decDigits_one h2] at h;simp only [List.cons_append,List.nil_append,List.cons.injEq] at h;exact ⟨Q97 h1 h2 h.1,h.2.2⟩
 ·rw [Lib.decDigits_one h1,Lib.decDigits_two h2 hy] at h;simp only [List.cons_append,List.nil_append,List.cons.injEq] at h;exact (Qbhp (by omega) h.2.1.symm).elim
 ·rw [Lib.decDigits_two h1 hx,Lib.decDigits_one h2] at h;simp only [List.cons_append,List.nil_append,List.cons.injEq] at h;exact (Qbhp (by omega) h.2.1).elim
 ·rw [Lib.decDigits_two h1 hx,Lib.decDigits_two h2 hy] at h;simp only [List.cons_append,List.nil_append,List.cons.injEq] at h;have e1:=Q97 (by omega) (by omega) h.1;have e2:=Q97 (by omega) (by omega) h.2.1;exact ⟨by omega,h.2.2.2⟩
def Q62 (t:List Int):Prop:=∀ x∈t,0≤x∧x<100
theorem Q84:∀ {l m:List Int},Q62 l→Q62 m→keyL l=keyL m→l=m
 | [],[],_,_,_=>rfl
 | [],y::m,_,_,h=>by
  have:=congrArg List.length h;simp [keyL] at this
 | x::l,[],_,_,h=>by
  have:=congrArg List.length h;simp [keyL] at this
 | x::l,y::m,hl,hm,h=>by
  have hx:=hl x (by simp);have hy:=hm y (by simp);have h' : Lib.decDigits x.toNat++32::keyL l=Lib.decDigits y.toNat++32::keyL m:=by simpa [keyL] using h
  obtain ⟨h1,h2⟩:=Qbi2 (by omega) (by omega) h';rw [Q84 (fun z hz=>hl z (by simp [hz])) (fun z hz=>hm z (by simp [hz])) h2,show x=y from by omega]
theorem Qbfb {l m:List Int} (hl:Q62 l) (hm:Q62 m) (h:keyB l=keyB m):l=m:=by
 unfold keyB at h;simp only [ByteArray.mk.injEq] at h;exact Q84 hl hm (by simpa using congrArg Array.toList h)
theorem Q85 {β:Type} {v:β} {k k' : ByteArray}:∀ {m:List (ByteArray×β)},hasM (setM m k v) k'=(decide (k'=k)||hasM m k')
 | []=>by simp [setM,hasM,Qmx]
 | (q,w)::m=>by
  by_cases h1:k=q
  ·subst h1;simp only [setM,Qmx,decide_true,if_true,Qj2];cases decide (k'=k)<;>simp
  ·simp only [setM,Qmx,decide_eq_false h1,Bool.false_eq_true,if_false,Qj2,Q85 (m:=m)];cases decide (k'=q)<;>cases decide (k'=k)<;>simp
theorem Q86 {β:Type} {z v:β} {k k' : ByteArray}:∀ {m:List (ByteArray×β)},getM (setM m k v) k' z=if k'=k then v else getM m k' z
 | []=>by simp [setM,getM,Qmx]
 | (q,w)::m=>by
  by_cases h1:k=q
  ·subst h1;by_cases h2:k'=k<;>simp [setM,getM,Qmx,h2]
  ·by_cases h2:k'=q
   ·subst h2;have h3:¬ k'=k:=fun e=>h1 e.symm;simp [setM,getM,Qmx,h1,h3]
   ·simp [setM,getM,Qmx,h1,h2,Q86 (m:=m)]
def MapK (m:List (ByteArray×Int)) (st:List (List Int)):Prop:=∀ r,Q62 r→hasM m (keyB r)=decide (r∈st)∧(r∈st→getM m (keyB r) 0=(st.idxOf r:Int))
theorem MapK.ins {m:List (ByteArray×Int)} {st:List (List Int)} (h:MapK m st) {r:List Int} (hr:r∉st) (hk:Q62 r):MapK (setM m (keyB r) (st.length:Int)) (st++[r]):=by
 intro x hx;obtain ⟨h1,h2⟩:=h x hx;have hiff:keyB x=keyB r↔x=r:=⟨fun e=>Qbfb hx hk e,fun e=>by rw [e]⟩;refine ⟨?_,fun hm=>?_⟩
 ·rw [Q85,h1,Bool.eq_iff_iff];simp [hiff];exact Or.comm
 ·rw [Q86];by_cases hxr:x=r
  ·subst hxr;rw [if_pos rfl,List.idxOf_append];simp [hr]
  ·rw [if_neg (fun e=>hxr (hiff.1 e))];have hx' : x∈st:=by
    rcases List.mem_append.1 hm with hx|hx
    ·exact hx
    ·simp at hx;exact absurd hx hxr
   rw [h2 hx',List.idxOf_append,if_pos hx']
abbrev TS:=List (List Int)×List Qb×List (ByteArray×Int)
def rowM (stp:List Int→Int→Option (List Int)) (i:Nat) (s:List Int) (p:TS) (e:Int):TS :=
 match stp s e with
 | none=>p
 | some t=>if t∈p.1 then (p.1,p.2.1++[⟨(i:Int),e,(p.1.idxOf t:Int)⟩],p.2.2) else (p.1++[t],p.2.1++[⟨(i:Int),e,(p.1.length:Int)⟩],setM p.2.2 (keyB t) (p.1.length:Int))
def bldM (stp:List Int→Int→Option (List Int)) (mk:List Int→Bool) (al:List Int):Nat→Nat→List Int→TS→List (List Int)×List Int×List Qb
 | 0,_,ms,p=>(p.1,ms,p.2.1)
 | f+1,i,ms,p=>match p.1[i]? with
  | none=>(p.1,ms,p.2.1)
  | some s=>bldM stp mk al f (i+1) (if mk s then ms++[(i:Int)] else ms) (al.foldl (rowM stp i s) p)
structure DomT (stp:List Int→Int→Option (List Int)) (al:List Int) (P:List Int→Prop) (N:Nat):Prop where
 ky:∀ x,P x→Q62 x
 cl:∀ x,P x→∀ e∈al,∀ t,stp x e=some t→P t
 bd:∀ l:List (List Int),l.Nodup→(∀ x∈l,P x)→l.length≤N
 nn:N≤4000
 so:al.Pairwise (· < ·)
 rg:∀ x∈al,0≤x∧x<32
structure FndT (al:List Int) (P:List Int→Prop) (i:Nat) (p:TS):Prop where
 nd:p.1.Nodup
 su:∀ x∈p.1,P x
 mp:MapK p.2.2 p.1
 ed:p.2.1.Pairwise Qid
 er:∀ x∈p.2.1,0≤x.From∧x.From<i∧0≤x.To∧x.To<p.1.length∧x.Event∈al
theorem Qbbt {l:List Int} (h:l.Pairwise (· < ·)) (h0:∀ x∈l,0≤x∧x<32):l.length≤32:=by
 have hr:Right ⟨l,0,[],[]⟩:={ al0:=h0,al:=h,st:=⟨Int.le_refl 0,by show (0:Int)≤4096;decide⟩,ma0:=fun x hx=>by simp at hx,ma:=List.Pairwise.nil,ed0:=fun x hx=>by simp at hx,ed:=List.Pairwise.nil };exact hr.small.2.1
section
variable {stp:List Int→Int→Option (List Int)} {mk:List Int→Bool} {al:List Int} {P:List Int→Prop} {N:Nat} (hd:DomT stp al P N)
structure RowT (al:List Int) (P:List Int→Prop) (i:Nat) (done:List Int) (p0 p:TS):Prop where
 nd:p.1.Nodup
 su:∀ x∈p.1,P x
 mp:MapK p.2.2 p.1
 pre:p0.1 <+: p.1
 ed:p.2.1.Pairwise Qid
 er:∀ x∈p.2.1,0≤x.From∧x.From≤i∧0≤x.To∧x.To<p.1.length∧x.Event∈al∧(x.From=i→x.Event∈done)
 ln:p.2.1.length≤p0.2.1.length+done.length
include hd
theorem RowT.step {i:Nat} {done:List Int} {p0 p:TS} {s:List Int} {e:Int} (h:RowT al P i done p0 p) (hs:P s) (he:e∈al) (hlt:∀ x∈done,x<e):RowT al P i (done++[e]) p0 (rowM stp i s p e):=by
 have hln:=h.ln;unfold rowM;cases hst:stp s e with
 | none =>
  exact ⟨h.nd,h.su,h.mp,h.pre,h.ed,fun x hx=>by
   obtain ⟨a1,a2,a3,a4,a5,a6⟩:=h.er x hx;exact ⟨a1,a2,a3,a4,a5,fun hf=>List.mem_append_left _ (a6 hf)⟩,by simp only [List.length_append,List.length_cons,List.length_nil];omega⟩
 | some t =>
  have ht:=hd.cl s hs e he t hst;have new:∀ (k:Int),0≤k→∀ (L:List (List Int)),k<L.length→(p.1 <+: L)→(p.2.1++[(⟨(i:Int),e,k⟩ : Qb)]).Pairwise Qid ∧
    ∀ x∈p.2.1++[(⟨(i:Int),e,k⟩ : Qb)],0≤x.From∧x.From≤i∧0≤x.To∧x.To<L.length∧x.Event∈al∧(x.From=i→x.Event∈done++[e]):=by
   intro k hk L hkL hpre;have hle:=hpre.length_le;refine ⟨List.pairwise_append.2 ⟨h.ed,List.pairwise_singleton _ _,fun x hx y hy=>?_⟩,fun x hx=>?_⟩
   ·simp only [List.mem_singleton] at hy;subst hy;obtain ⟨a1,a2,a3,a4,a5,a6⟩:=h.er x hx;unfold Qid;dsimp only;by_cases hf:x.From=i
    ·exact .inr ⟨hf,hlt _ (a6 hf)⟩
    ·exact .inl (by omega)
   ·rcases List.mem_append.1 hx with hx|hx
    ·obtain ⟨a1,a2,a3,a4,a5,a6⟩:=h.er x hx;exact ⟨a1,a2,a3,by omega,a5,fun hf=>List.mem_append_left _ (a6 hf)⟩
    ·simp only [List.mem_singleton] at hx;subst hx;exact ⟨by dsimp only;omega,Int.le_refl _,hk,hkL,he,fun _=>by simp⟩
  dsimp only;by_cases hm:t∈p.1
  ·rw [if_pos hm];obtain ⟨k1,k2⟩:=new (p.1.idxOf t:Int) (by omega) p.1 (by have:=List.idxOf_lt_length_of_mem hm;omega) (List.prefix_refl _);exact ⟨h.nd,h.su,h.mp,h.pre,k1,k2,by simp only [List.length_append,List.length_cons,List.length_nil];omega⟩
  ·rw [if_neg hm];obtain ⟨k1,k2⟩:=new (p.1.length:Int) (by omega) (p.1++[t]) (by simp only [List.length_append,List.length_cons,List.length_nil];omega) (List.prefix_append _ _);refine ⟨?_,fun x hx=>?_,h.mp.ins hm (hd.ky t ht),List.IsPrefix.trans h.pre (List.prefix_append _ _),k1,k2,by simp only [List.length_append,List.length_cons,List.length_nil];omega⟩
   ·dsimp only;rw [List.nodup_append];refine ⟨h.nd,by simp,fun a ha b hb=>?_⟩;simp only [List.mem_singleton] at hb;subst hb;rintro rfl;exact hm ha
   ·rcases List.mem_append.1 hx with hx|hx
    ·exact h.su x hx
    ·simp only [List.mem_singleton] at hx;subst hx;exact ht
theorem RowT.fold {i:Nat} {p0:TS} {s:List Int} (hs:P s):∀ {es done:List Int} {p:TS},done++es=al→RowT al P i done p0 p→RowT al P i al p0 (es.foldl (rowM stp i s) p)
 | [],done,p,he,h=>by rw [List.append_nil] at he;subst he;exact h
 | e::es,done,p,he,h=>by
  rw [List.foldl_cons];refine RowT.fold hs (done:=done++[e]) (by rw [← he];simp) (h.step hd hs (by rw [← he];simp) fun x hx=>?_);have:=hd.so;rw [← he,List.pairwise_append] at this;exact this.2.2 x hx e (by simp)
theorem FndT.row {i:Nat} {p:TS} (h:FndT al P i p) {s:List Int} (hs:P s):FndT al P (i+1) (al.foldl (rowM stp i s) p)∧p.1 <+: (al.foldl (rowM stp i s) p).1∧(al.foldl (rowM stp i s) p).2.1.length≤p.2.1.length+al.length:=by
 have:=RowT.fold hd (i:=i) (p0:=p) (p:=p) hs (es:=al) (done:=[]) rfl ⟨h.nd,h.su,h.mp,List.prefix_refl _,h.ed,fun x hx=>by
  obtain ⟨a1,a2,a3,a4,a5⟩:=h.er x hx;exact ⟨a1,by omega,a3,a4,a5,fun hf=>by omega⟩,by simp⟩
 exact ⟨⟨this.nd,this.su,this.mp,this.ed,fun x hx=>by
  obtain ⟨a1,a2,a3,a4,a5,_⟩:=this.er x hx;exact ⟨a1,by omega,a3,a4,a5⟩⟩,this.pre,this.ln⟩
theorem FndT.len {i:Nat} {p:TS} (h:FndT al P i p):p.1.length≤N:=hd.bd _ h.nd h.su
structure MksT (i:Nat) (ms:List Int):Prop where
 rg:∀ x∈ms,0≤x∧x<i
 so:ms.Pairwise (· < ·)
theorem Q52 (mk:List Int→Bool):∀ {f i:Nat} {ms:List Int} {p:TS},FndT al P i p→MksT i ms→i≤p.1.length→N+1≤f+i →
  Right ⟨al,((bldM stp mk al f i ms p).1.length:Int),(bldM stp mk al f i ms p).2.1,(bldM stp mk al f i ms p).2.2⟩∧(∀ x∈(bldM stp mk al f i ms p).1,P x)∧(bldM stp mk al f i ms p).1.length≤N∧p.1 <+: (bldM stp mk al f i ms p).1
 | 0,i,ms,p,h,hm,hi,hf=>by have:=h.len hd;omega
 | f+1,i,ms,p,h,hm,hi,hf=>by
  have hN:=hd.nn;have hl:=h.len hd;rw [bldM];cases hg:p.1[i]? with
  | none =>
   have hi2:i=p.1.length:=by have:=List.getElem?_eq_none_iff.1 hg;omega
   dsimp only;refine ⟨⟨hd.rg,hd.so,⟨by dsimp only;omega,by dsimp only;omega⟩,fun x hx=>?_,hm.so,fun x hx=>?_,h.ed⟩,h.su,hl,List.prefix_refl _⟩
   ·have:=hm.rg x hx;dsimp only;omega
   ·have:=h.er x hx;dsimp only;exact ⟨this.1,by omega,this.2.2.1,this.2.2.2.1,this.2.2.2.2⟩
  | some s =>
   have hs:=h.su s (List.mem_of_getElem? hg);obtain ⟨h1,h2,h3⟩:=h.row hd hs;have hlt:i<p.1.length:=(List.getElem?_eq_some_iff.1 hg).1;have hle:=h2.length_le;dsimp only;obtain ⟨k1,k2,k3,k4⟩:=Q52 mk (f:=f) (i:=i+1) (ms:=if mk s then ms++[(i:Int)] else ms) h1 (by
    split
    ·refine ⟨fun x hx=>?_,List.pairwise_append.2 ⟨hm.so,List.pairwise_singleton _ _,fun a ha b hb=>?_⟩⟩
     ·rcases List.mem_append.1 hx with hx|hx
      ·have:=hm.rg x hx;omega
      ·simp only [List.mem_singleton] at hx;omega
     ·simp only [List.mem_singleton] at hb;have:=hm.rg a ha;omega
    ·exact ⟨fun x hx=>by have:=hm.rg x hx;omega,hm.so⟩) (by omega) (by omega)
   exact ⟨k1,k2,k3,List.IsPrefix.trans h2 k4⟩
end
end Go.Abs
end
section
namespace Go.Abs
open Go
structure Mrg (kp:Bool→Bool→Bool) (l m a b out:List Int):Prop where
 sa:a.Pairwise (· < ·)
 sb:b.Pairwise (· < ·)
 so:out.Pairwise (· < ·)
 oa:∀ o∈out,∀ x∈a,o<x
 ob:∀ o∈out,∀ x∈b,o<x
 ln:out.length+a.length+b.length<big
 eq:∀ x,(x∈out∨kp (decide (x∈a)) (decide (x∈b))=true)↔kp (decide (x∈l)) (decide (x∈m))=true
theorem Mrg.step {kp:Bool→Bool→Bool} (h0:kp false false=false) {l m a b out a' b' : List Int} {z:Int} {p q:Bool} (h:Mrg kp l m a b out) (ha:a=if p then z::a' else a') (hb:b=if q then z::b' else b') (hpq:p=true∨q=true)
  (hza:∀ x∈a',z<x) (hzb:∀ x∈b',z<x):Mrg kp l m a' b' (if kp p q then out++[z] else out):=by
 have ma:∀ x,x∈a↔(p=true∧x=z)∨x∈a':=fun x=>by rw [ha];cases p<;>simp
 have mb:∀ x,x∈b↔(q=true∧x=z)∨x∈b':=fun x=>by rw [hb];cases q<;>simp
 have hoz:∀ o∈out,o<z:=fun o ho=>by
  rcases hpq with rfl|rfl
  ·exact h.oa o ho z ((ma z).2 (.inl ⟨rfl,rfl⟩))
  ·exact h.ob o ho z ((mb z).2 (.inl ⟨rfl,rfl⟩))
 have hm:∀ o,o∈(if kp p q then out++[z] else out)↔o∈out∨(kp p q=true∧o=z):=fun o=>by cases kp p q<;>simp
 have hza' : z∉a':=fun hx=>by have:=hza z hx;omega
 have hzb' : z∉b':=fun hx=>by have:=hzb z hx;omega
 refine ⟨?_,?_,?_,?_,?_,?_,fun x=>?_⟩
 ·have:=h.sa;rw [ha] at this;cases p
  ·exact this
  ·exact (List.pairwise_cons.1 this).2
 ·have:=h.sb;rw [hb] at this;cases q
  ·exact this
  ·exact (List.pairwise_cons.1 this).2
 ·cases kp p q
  ·exact h.so
  ·simp only [if_true];rw [List.pairwise_append];exact ⟨h.so,by simp,fun o ho y hy=>by simp at hy;subst hy;exact hoz o ho⟩
 ·intro o ho x hx;rcases (hm o).1 ho with ho|⟨_,rfl⟩
  ·exact h.oa o ho x ((ma x).2 (.inr hx))
  ·exact hza x hx
 ·intro o ho x hx;rcases (hm o).1 ho with ho|⟨_,rfl⟩
  ·exact h.ob o ho x ((mb x).2 (.inr hx))
  ·exact hzb x hx
 ·have h1:=h.ln;have h2:a.length=a'.length+if p then 1 else 0:=by rw [ha];cases p<;>simp
  have h3:b.length=b'.length+if q then 1 else 0:=by rw [hb];cases q<;>simp
  have h4:(if kp p q then out++[z] else out).length≤out.length+1:=by split<;>simp
  rcases hpq with rfl|rfl<;>simp at h2 h3<;>omega
 ·rw [← h.eq x,hm];by_cases hx:x=z
  ·subst hx;have e1:decide (x∈a)=p:=by rw [Bool.eq_iff_iff,decide_eq_true_eq,ma];simp [hza']
   have e2:decide (x∈b)=q:=by rw [Bool.eq_iff_iff,decide_eq_true_eq,mb];simp [hzb']
   rw [e1,e2,decide_eq_false hza',decide_eq_false hzb',h0];simp
  ·have e1:decide (x∈a)=decide (x∈a'):=decide_eq_decide.2 (by rw [ma];simp [hx]);have e2:decide (x∈b)=decide (x∈b'):=decide_eq_decide.2 (by rw [mb];simp [hx]);rw [e1,e2];simp [hx]
theorem Qbgv {kp:Bool→Bool→Bool} {keep:Bool→Bool→Option Bool} (hk:∀ p q,keep p q=some (kp p q)) (h0:kp false false=false) {l m:List Int} (hl:l.Pairwise (· < ·)) (hm:m.Pairwise (· < ·)) (hlm:l.length+m.length<big) :
  ∃ R,Qgy l m keep=some R∧R.Pairwise (· < ·)∧∀ x,x∈R↔kp (decide (x∈l)) (decide (x∈m))=true:=by
 unfold Qgy Qb7;obtain ⟨fuel,hfu,hge⟩ : ∃ f,Q5=f∧1099511627776≤f:=⟨_,rfl,Nat.le_refl _⟩;rw [hfu];have hg:∀ (x:Int) (l:List Int),getO (x::l) 0=some x:=fun x l=>Q6 (l:=x::l) (n:=0) (by simp);have hd:∀ (x:Int) (l:List Int),slcO (x::l) 1 ((x::l).length:Int)=some l:=fun x l=>by
  have:=Q2h (l:=x::l) (i:=1) (j:=(x::l).length) (by simp) (by simp);rw [List.take_length] at this;exact this
 have key:=Qdb (F:=fun (k14:List Int×List Int×List Int→Option (List Int)) ((a11,b12,out13):(List Int)×(List Int)×(List Int))=>(((if ((a11.length:Int)>0) then some true else some (decide ((b12.length:Int)>0)))).bind fun (x16:Bool)=>(if x16 then (((if ((a11.length:Int)>0) then (if ((b12.length:Int)==0) then some true else ((getO a11 0).bind fun x20=>((getO b12 0).bind fun x22=>some (decide (x20≤x22))))) else some false)).bind fun (inA24:Bool)=>(((if ((b12.length:Int)>0) then (if ((a11.length:Int)==0) then some true else ((getO b12 0).bind fun x27=>((getO a11 0).bind fun x29=>some (decide (x27≤x29))))) else some false)).bind fun (inB31:Bool)=>(((if inA24 then ((getO a11 0).bind fun x33=>((slcO a11 1 (a11.length:Int)).bind fun x35=>some (x35,x33))) else some (a11,0))).bind fun ((a37,x38):(List Int)×Int)=>(((if inB31 then ((getO b12 0).bind fun x40=>((slcO b12 1 (b12.length:Int)).bind fun x42=>some (x42,x40))) else some (b12,x38))).bind fun ((b44,x45):(List Int)×Int)=>((keep inA24 inB31).bind fun x47=>(if x47 then ((appO out13 [x45]).bind fun x49=>k14 (a37,b44,x49)) else k14 (a37,b44,out13))))))) else some out13)))
  (fun x:List Int×List Int×List Int=>Mrg kp l m x.1 x.2.1 x.2.2) (fun x=>x.1.length+x.2.1.length) (fun _ r=>∃ R,r=some R∧R.Pairwise (· < ·)∧∀ x,x∈R↔kp (decide (x∈l)) (decide (x∈m))=true) ?_ fuel (l,m,[]) ⟨hl,hm,by simp,by simp,by simp,by simpa using hlm,by simp⟩ (by unfold big at hlm;dsimp only;omega)
 ·obtain ⟨R,h1,h2,h3⟩:=key;exact ⟨R,by rw [h1];rfl,h2,h3⟩
 rintro k ⟨a,b,out⟩ h ih;dsimp only at h ih ⊢;have hln:=h.ln;have happ:∀ z:Int,out.length+1≤big→appO out [z]=some (out++[z]):=fun z hz=>Qck (by simp only [List.length_cons,List.length_nil];unfold lim;unfold big at hz;omega);have fin:∀ (a' b' : List Int) (z:Int) (p q:Bool),out.length+1≤big→Mrg kp l m a' b' (if kp p q then out++[z] else out)→a'.length+b'.length<a.length+b.length →
   ∃ R,((keep p q).bind fun x47=>if x47 then ((appO out [z]).bind fun x49=>k (a',b',x49)) else k (a',b',out))=some R∧R.Pairwise (· < ·)∧∀ x,x∈R↔kp (decide (x∈l)) (decide (x∈m))=true:=by
  intro a' b' z p q hz hM hlt;rw [hk,happ z hz];simp only [Option.bind_some];have:=ih (a',b',if kp p q then out++[z] else out) hM hlt;cases hkp:kp p q<;>simp only [hkp,Bool.false_eq_true,if_false,if_true] at this ⊢ <;> exact this
 match a,b,h,fin,hln with
 | [],[],h,fin,hln =>
  refine ⟨out,by simp,h.so,fun x=>?_⟩;rw [← h.eq x];simp [h0]
 | [],y::ys,h,fin,hln =>
  rw [show ((([]:List Int).length:Nat):Int)=0 from rfl];have hp:(((y::ys).length:Nat):Int)>0:=by simp only [List.length_cons];omega
  rw [if_neg (by omega),Option.bind_some,if_pos (by simp)];rw [if_neg (by omega),Option.bind_some,if_pos hp,if_pos (by rfl),Option.bind_some,if_neg (by simp),Option.bind_some,if_pos rfl,hg,hd];simp only [Option.bind_some];exact fin [] ys y false true (by simp only [List.length_cons] at hln;omega) (h.step h0 (z:=y) (p:=false) (q:=true) rfl rfl (.inr rfl) (by simp) (List.pairwise_cons.1 h.sb).1) (by simp)
 | x::xs,[],h,fin,hln =>
  rw [show ((([]:List Int).length:Nat):Int)=0 from rfl];have hp:(((x::xs).length:Nat):Int)>0:=by simp only [List.length_cons];omega
  rw [if_pos hp,Option.bind_some,if_pos rfl,if_pos hp,if_pos (by rfl),Option.bind_some,if_neg (by omega),Option.bind_some,if_pos rfl,hg,hd];simp only [Option.bind_some,Bool.false_eq_true,if_false];exact fin xs [] x true false (by simp only [List.length_cons] at hln;omega) (h.step h0 (z:=x) (p:=true) (q:=false) rfl rfl (.inl rfl) (List.pairwise_cons.1 h.sa).1 (by simp)) (by simp)
 | x::xs,y::ys,h,fin,hln =>
  obtain ⟨ha1,ha2⟩:=List.pairwise_cons.1 h.sa;obtain ⟨hb1,hb2⟩:=List.pairwise_cons.1 h.sb;have hp:(((x::xs).length:Nat):Int)>0:=by simp only [List.length_cons];omega
  have hq:(((y::ys).length:Nat):Int)>0:=by simp only [List.length_cons];omega
  have hp0:((((x::xs).length:Nat):Int)==0)=false:=by simp only [beq_eq_false_iff_ne];omega
  have hq0:((((y::ys).length:Nat):Int)==0)=false:=by simp only [beq_eq_false_iff_ne];omega
  rw [if_pos hp,Option.bind_some,if_pos rfl,if_pos hp,if_neg (by rw [hq0];simp),hg,hg,Option.bind_some,Option.bind_some,Option.bind_some,if_pos hq,if_neg (by rw [hp0];simp),Option.bind_some,Option.bind_some,Option.bind_some,hd,hd];simp only [List.length_cons] at hln;rcases Int.lt_trichotomy x y with hxy|rfl|hxy
  ·have e1:decide (x≤y)=true:=decide_eq_true (by omega);have e2:decide (y≤x)=false:=decide_eq_false (by omega);simp only [e1,e2,Option.bind_some,if_true,Bool.false_eq_true,if_false];exact fin xs (y::ys) x true false (by omega) (h.step h0 (z:=x) (p:=true) (q:=false) rfl rfl (.inl rfl) ha1 (fun z hz=>by
    rcases List.mem_cons.1 hz with rfl|hz
    ·exact hxy
    ·have:=hb1 z hz;omega)) (by simp)
  ·have e1:decide (x≤x)=true:=decide_eq_true (by omega);simp only [e1,Option.bind_some,if_true];exact fin xs ys x true true (by omega) (h.step h0 (z:=x) (p:=true) (q:=true) rfl rfl (.inl rfl) ha1 hb1) (by simp;omega)
  ·have e1:decide (x≤y)=false:=decide_eq_false (by omega);have e2:decide (y≤x)=true:=decide_eq_true (by omega);simp only [e1,e2,Option.bind_some,if_true,Bool.false_eq_true,if_false];exact fin (x::xs) ys y false true (by omega) (h.step h0 (z:=y) (p:=false) (q:=true) rfl rfl (.inr rfl) (fun z hz=>by
    rcases List.mem_cons.1 hz with rfl|hz
    ·exact hxy
    ·have:=ha1 z hz;omega) hb1) (by simp)
end Go.Abs
end
section
namespace Go.Abs
open Go
theorem Qbgw {l m:List Int} (hl:l.Pairwise (· < ·)) (hm:m.Pairwise (· < ·)) (hlm:l.length+m.length<big) :
  ∃ R,Qic l m=some R∧R.Pairwise (· < ·)∧∀ x,x∈R↔x∈l∨x∈m:=by
 unfold Qic Qe5;obtain ⟨R,h1,h2,h3⟩:=Qbgv (kp:=fun p q=>p||q) (keep:=Qly) (fun p q=>by cases p<;>cases q<;>rfl) rfl hl hm hlm;exact ⟨R,by rw [h1];rfl,h2,fun x=>by rw [h3];simp⟩
end Go.Abs
end
section
namespace Go.Abs
open Go
end Go.Abs
end
section
namespace Go.Abs
open Go
theorem Q4h {α:Type} [DecidableEq α] {s t:List α} {ne:α→α→Bool} (hne:∀ x y,ne x y=decide (x≠y)) (hl:s.length=t.length) (h:s.length<1000000000000) :
  Qbx (fun k5 (i4:Int)=>(if (i4<(s.length:Int)) then ((getO s i4).bind fun x7=>((getO t i4).bind fun x9=>(if ne x7 x9 then some false else k5 (IntKind.wrap .i64 (i4+1))))) else some true)) Q5 0=some (decide (s=t)):=by
 refine Q2g (fun i:Int=>∃ n:Nat,i=n∧n≤s.length∧s.take n=t.take n) (fun i=>s.length-i.toNat) _ ⟨0,rfl,by omega,by simp⟩ (by unfold Q5;omega) ?_;rintro k _ ⟨n,rfl,hn,he⟩ ih;by_cases hlt:n<s.length
 ·rw [if_pos (by omega),Q6 hlt,Q6 (by omega:n<t.length)];simp only [Option.bind_some,hne];by_cases hx:s[n]=t[n]
  ·rw [if_neg (by simp [hx]),Qbi (by omega)];exact ih _ ⟨n+1,rfl,by omega,Q8p hlt (by omega) he hx⟩ (by omega)
  ·rw [if_pos (by simp [hx])];have:s≠t:=fun e=>hx (by subst e;rfl);simp [this]
 ·rw [if_neg (by omega)];have e:n=s.length:=by omega
  have:s=t:=by
   rw [e,List.take_length,hl,List.take_length] at he;exact he
  simp [this]
theorem Qbfc (x y:Qb):(!((x.From==y.From)&&((x.Event==y.Event)&&((x.To==y.To)&&true))))=decide (x≠y):=by
 cases x;cases y;simp only [Qb.mk.injEq,Bool.and_true,ne_eq,decide_not];congr 1;rw [Bool.eq_iff_iff];simp
theorem Qbfd {s t:List Int} (h:s.length<1000000000000):Qiv s t=some (decide (s=t)):=by
 unfold Qiv Qdr;by_cases hl:s.length=t.length
 ·rw [if_neg (by simp [hl])];exact Q4h (ne:=fun x y=>x != y) (fun x y=>by rw [Bool.eq_iff_iff];simp) hl h
 ·rw [if_pos (by simp;omega)];have:s≠t:=fun e=>hl (by rw [e]);simp [this]
theorem Qbbu {s t:List Int} (h:s.length<1000000000000):Qfy s t=some (decide (s=t)):=Qbfd h
theorem Qbhq {R:Type} (b:Bool) (A B:R):(if b then A else B)=if (!b) then B else A:=by cases b<;>rfl
theorem Qbja {s t:List Qb} (h:s.length<1000000000000):Qh6 s t=some (decide (s=t)):=by
 unfold Qh6 Qdx;by_cases hl:s.length=t.length
 ·rw [if_neg (by simp [hl])];have:=Q4h (ne:=fun x y=>!((x.From==y.From)&&((x.Event==y.Event)&&((x.To==y.To)&&true)))) Qbfc hl h;simp only [← Qbhq] at this;exact this
 ·rw [if_pos (by simp;omega)];have:s≠t:=fun e=>hl (by rw [e]);simp [this]
theorem Qbfe {a b:Qa} (h:small a):Qhj a b=some (decide (a=b)):=by
 unfold Qhj Qcx;rw [Qbbu h.1,Qbbu h.2.1];obtain ⟨al,s,m,e⟩:=a;obtain ⟨al',s',m',e'⟩:=b;have hlen:e.length≠e'.length→¬ e=e':=fun h k=>h (by rw [k]);have hlen2:((e.length:Int) != (e'.length:Int))=decide (e.length≠e'.length):=by
  rw [Bool.eq_iff_iff];simp;omega
 by_cases hl:e.length=e'.length
 ·have:=Q4h (ne:=fun x y=>!((x.From==y.From)&&((x.Event==y.Event)&&((x.To==y.To)&&true)))) Qbfc hl h.2.2;simp only [← Qbhq] at this;rw [this];simp only [Option.bind_some,Qa.mk.injEq,hlen2];by_cases h1:s=s'<;>by_cases h2:al=al'<;>by_cases h3:m=m'<;>simp [h1,h2,h3,hl]
 ·generalize Qbx _ Q5 0=L;simp only [Option.bind_some,Qa.mk.injEq,hlen2];by_cases h1:s=s'<;>by_cases h2:al=al'<;>by_cases h3:m=m'<;>simp [h1,h2,h3,hl,hlen hl]
end Go.Abs
end
section
namespace Go.Abs
open Go
theorem Qp7 {l:List Int} {v:Int} (hs:l.Pairwise (· < ·)) (hl:l.length<big):Qfd l v=some (decide (v∈l)):=by
 unfold Qfd Q4;obtain ⟨n,h⟩:=Q83 (v:=v) hs hl;rw [h];rfl
theorem Qbi3 {l:List Int} {n:Int} (hl:l.length<big):Qfc l n=some (Qes n none l):=by
 unfold Qfc Qde;refine (Qkj (len:=l.length) (fun k=>some (Qes n (ahead l k) (l.drop k))) (by unfold Q5;unfold big at hl;omega) ?_ ?_).trans (by simp [Qla])
 ·intro k i hi ih;have hb:i<1000000000000:=by unfold big at hl;omega
  rw [Qwj hi]
  try dsimp only
  rw [if_pos (by omega),Q6 hi,Qbi (by omega),ih];simp only [Option.bind_some];by_cases h1:l[i]<0
  ·simp [h1]
  ·by_cases h2:l[i]≥n
   ·simp [h1,h2]
   ·by_cases h0:0<i
    ·rw [Qz5 h0 (by omega),Q6 (by omega:i-1<l.length),Qz6 l h0 (by omega)];by_cases h3:l[i]≤l[i-1]<;>simp [h1,h2,h3,h0]
    ·obtain rfl:i=0:=by omega
     simp [h1,h2,Qla]
 ·intro k;simp [Qes]
structure SetP (n:Int) (l:List Int):Prop where
 rg:∀ x∈l,0≤x∧x<n
 so:l.Pairwise (· < ·)
theorem SetP.small {n:Int} {l:List Int} (h:SetP n l) (hn:n≤4096):l.length≤4096:=by
 have:=Qjj h.so h.rg;omega
end Go.Abs
end
section
namespace Go.Abs
open Go
theorem Q87 {κ β:Type} [BEq κ] [LawfulBEq κ] [DecidableEq κ] {v:β} {k k' : κ}:∀ {m:List (κ×β)},hasM (setM m k v) k'=(decide (k'=k)||hasM m k')
 | []=>by simp only [setM,hasM,List.any_cons,List.any_nil,Bool.or_false];rw [Bool.eq_iff_iff];simp
 | (q,w)::m=>by
  by_cases h1:k=q
  ·subst h1;simp only [setM,beq_self_eq_true,if_true,Qj2];rw [Bool.eq_iff_iff];simp
  ·have h1' : (k==q)=false:=by simp [h1]
   simp only [setM,h1',Bool.false_eq_true,if_false,Qj2,Q87 (m:=m)];cases (k'==q)<;>cases decide (k'=k)<;>simp
theorem Q4i {κ β:Type} [BEq κ] [LawfulBEq κ] [DecidableEq κ] {z v:β} {k k' : κ}:∀ {m:List (κ×β)},getM (setM m k v) k' z=if k'=k then v else getM m k' z
 | []=>by simp [setM,getM]
 | (q,w)::m=>by
  by_cases h1:k=q
  ·subst h1;by_cases h2:k'=k<;>simp [setM,getM,h2]
  ·have h1' : (k==q)=false:=by simp [h1]
   by_cases h2:k'=q
   ·subst h2;have h3:¬ k'=k:=fun e=>h1 e.symm;simp [setM,getM,h1',h3]
   ·have h2' : (k'==q)=false:=by simp [h2]
    simp [setM,getM,h1',h2',Q4i (m:=m)]
def edM (a:Qa):List ((Int×Int)×Int):=a.zD.foldl (fun c x=>setM c (x.From,x.Event) x.To) []
theorem Q63:∀ {es:List Qb} {c:List ((Int×Int)×Int)} {s e:Int},es.Pairwise Qid →
  hasM (es.foldl (fun c x=>setM c (x.From,x.Event) x.To) c) (s,e)=((es.find? fun x=>x.From==s&&x.Event==e).isSome||hasM c (s,e)) ∧
  getM (es.foldl (fun c x=>setM c (x.From,x.Event) x.To) c) (s,e) 0=match es.find? (fun x=>x.From==s&&x.Event==e) with|some x=>x.To|none=>getM c (s,e) 0
 | [],c,s,e,_=>by simp
 | x::es,c,s,e,h=>by
  obtain ⟨h1,h2⟩:=List.pairwise_cons.1 h;obtain ⟨i1,i2⟩:=Q63 (es:=es) (c:=setM c (x.From,x.Event) x.To) (s:=s) (e:=e) h2;rw [List.foldl_cons,i1,i2,Q87,Q4i,List.find?_cons];by_cases hx:x.From=s∧x.Event=e
  ·obtain ⟨rfl,rfl⟩:=hx;have hn:es.find? (fun y=>y.From==x.From&&y.Event==x.Event)=none:=by
    rw [List.find?_eq_none];intro y hy hq;simp only [Bool.and_eq_true,beq_iff_eq] at hq;have:=h1 y hy;unfold Qid at this;omega
   simp [hn]
  ·have hb:(x.From==s&&x.Event==e)=false:=by
    rw [Bool.and_eq_false_iff];by_cases h3:x.From=s
    ·exact .inr (beq_eq_false_iff_ne.2 fun h4=>hx ⟨h3,h4⟩)
    ·exact .inl (beq_eq_false_iff_ne.2 h3)
   have hne:¬ ((s,e)=(x.From,x.Event)):=fun h4=>hx ⟨by injection h4 with h5 h6;exact h5.symm,by injection h4 with h5 h6;exact h6.symm⟩;rw [hb,decide_eq_false hne,if_neg hne];simp
theorem Qbi4 {a:Qa} (h:Right a) (s e:Int):hasM (edM a) (s,e)=decide (0≤Qgj a s e):=by
 unfold edM Qgj;rw [(Q63 h.ed).1];cases hf:a.zD.find? fun x=>x.From==s&&x.Event==e with
 | none=>simp [hasM]
 | some x =>
  have:=(h.ed0 x (List.mem_of_find?_eq_some hf)).2.2.1;simp [this]
theorem Qbi5 {a:Qa} (h:Right a) {s e:Int} (h0:0≤Qgj a s e):getM (edM a) (s,e) 0=Qgj a s e:=by
 unfold edM Qgj at *
 rw [(Q63 h.ed).2];cases hf:a.zD.find? fun x=>x.From==s&&x.Event==e with
 | none=>rw [hf] at h0;simp at h0
 | some x=>rfl
def InT:List Qa→List Int→Prop
 | [],[]=>True
 | a::l,x::t=>(0≤x∧x<a.zF)∧InT l t
 | _,_=>False
theorem InT.len:∀ {l:List Qa} {t:List Int},InT l t→t.length=l.length
 | [],[],_=>rfl
 | a::l,x::t,h=>by simp [InT.len h.2]
 | [],_::_,h=>h.elim
 | _::_,[],h=>h.elim
theorem InT.get:∀ {l:List Qa} {t:List Int},InT l t→∀ (i:Nat) (hi:i<l.length) (hj:i<t.length),0≤t[i]∧t[i]<l[i].zF
 | a::l,x::t,h,0,_,_=>h.1
 | a::l,x::t,h,i+1,hi,hj=>InT.get h.2 i (by simpa using hi) (by simpa using hj)
 | [],_,_,i,hi,_=>by simp at hi
 | _::_,[],h,_,_,_=>h.elim
def allT:List Qa→List (List Int)
 | []=>[[]]
 | a::l=>(upto a.zF).flatMap fun x=>(allT l).map (x :: ·)
theorem Qbbv:∀ {l:List Qa} {t:List Int},InT l t→t∈allT l
 | [],[],_=>by simp [allT]
 | a::l,x::t,h=>by
  simp only [allT,List.mem_flatMap,List.mem_map];exact ⟨x,Qbgs.2 h.1,t,Qbbv h.2,rfl⟩
 | [],_::_,h=>h.elim
 | _::_,[],h=>h.elim
theorem Q64:∀ {l:List Qa},(allT l).length=l.foldr (fun a n=>a.zF.toNat*n) 1
 | []=>rfl
 | a::l=>by
  simp only [allT,List.length_flatMap,List.length_map,List.foldr_cons,← Q64 (l:=l)];generalize (allT l).length=n;have:∀ u:List Int,(u.map fun _=>n).sum=u.length*n:=fun u=>by
   induction u with
   | nil=>simp
   | cons x u ih=>simp only [List.map_cons,List.sum_cons,ih,List.length_cons,Nat.add_mul];omega
  rw [this,Q0a]
theorem Qbbw {τ:Type} [DecidableEq τ]:∀ {l m:List τ},l.Nodup→(∀ x∈l,x∈m)→l.length≤m.length
 | [],_,_,_=>by simp
 | x::l,m,h,hs=>by
  obtain ⟨a1,a2⟩:=List.nodup_cons.1 h;have hx:=hs x (by simp);have:=Qbbw (l:=l) (m:=m.erase x) a2 fun y hy=>(List.mem_erase_of_ne (by rintro rfl;exact a1 hy)).2 (hs y (by simp [hy]));rw [List.length_erase_of_mem hx] at this;have:0<m.length:=List.length_pos_of_mem hx;simp only [List.length_cons];omega
def Qbco (a:Qa) (x e:Int):Option Int:=if e∈a.zB then (if 0≤Qgj a x e then some (Qgj a x e) else none) else some x
def Qwo:List Qa→List Int→Int→Option (List Int)
 | a::l,x::t,e=>match Qbco a x e with
  | some y=>(Qwo l t e).map (y :: ·)
  | none=>none
 | _,_,_=>some []
def Q4u (e:Int):List Int→List (Qa×Int)→Option (List Int)
 | acc,[]=>some acc
 | acc,q::qs=>match Qbco q.1 q.2 e with
  | some y=>Q4u e (acc++[y]) qs
  | none=>none
theorem Qbbx {e:Int}:∀ {l:List Qa} {t acc:List Int},Q4u e acc (l.zip t)=(Qwo l t e).map (acc ++ ·)
 | [],t,acc=>by simp [Q4u,Qwo]
 | a::l,[],acc=>by simp [Q4u,Qwo]
 | a::l,x::t,acc=>by
  rw [List.zip_cons_cons,Q4u,Qwo];cases Qbco a x e with
  | none=>rfl
  | some y =>
   dsimp only;rw [Qbbx];cases Qwo l t e<;>simp
theorem Q65:∀ {l:List Qa} {t:List Int} {e:Int} {r:List Int},(∀ a∈l,Right a)→InT l t→Qwo l t e=some r→InT l r
 | [],[],e,r,_,_,h=>by simp [Qwo] at h;subst h;trivial
 | a::l,x::t,e,r,hr,hi,h=>by
  rw [Qwo] at h;cases h1:Qbco a x e with
  | none=>rw [h1] at h;cases h
  | some y =>
   rw [h1] at h;dsimp only at h;obtain ⟨r',h2,rfl⟩:=Option.map_eq_some_iff.1 h;refine ⟨?_,Q65 (fun b hb=>hr b (by simp [hb])) hi.2 h2⟩;unfold Qbco at h1;split at h1
   ·split at h1<;>cases h1;rename_i h3;have:=Qt2 (hr a (by simp)) x e;omega
   ·cases h1;exact hi.1
 | [],_::_,_,_,_,h,_=>h.elim
 | _::_,[],_,_,_,h,_=>h.elim
def mkT (l:List Qa) (t:List Int):Bool:=(l.zip t).all fun q=>decide (q.2∈q.1.zC)
structure Parts (l:List Qa):Prop where
 r:∀ a∈l,Right a
 s:∀ a∈l,a.zF≤100
 n:l.length≤12
 b:(allT l).length≤4000
section
variable {l:List Qa} (h:Parts l)
include h
theorem Parts.big:l.length<Go.Abs.big:=by have:=h.n;unfold Go.Abs.big;omega
theorem Qwp:Qlx l=some 0:=by
 unfold Qlx Qfn;have hn:=h.n;rw [if_neg (by omega)];refine Qkj (len:=l.length) (fun _=>some 0) (by unfold Q5;omega) (fun k n hn' hk=>?_) (fun k=>?_)
 ·rw [if_pos (by omega),Q6 hn',Option.bind_some,Qyw (h.r _ (List.getElem_mem hn')),Option.bind_some,if_neg (by simp),Qbi (by omega)];exact hk
 ·rw [if_neg (by omega)]
structure EvsU (l:List Qa) (R:List Int):Prop where
 so:R.Pairwise (· < ·)
 me:∀ x,x∈R↔∃ a∈l,x∈a.zB
theorem EvsU.rg {R:List Int} (hR:EvsU l R):∀ x∈R,0≤x∧x<32:=fun x hx=>by
 obtain ⟨a,ha,hx⟩:=(hR.me x).1 hx;exact (h.r a ha).al0 x hx
theorem Qbi6:∃ R,Qf2 l=some R∧EvsU l R:=by
 unfold Qf2 Qe6;have hb:=h.n;obtain ⟨R,h1,h2⟩ : ∃ R,Qbx (fun k4 ((out2,x3):(List Int)×Int)=>(if (x3<(l.length:Int)) then ((getO l x3).bind fun x6=>((Qic out2 x6.zB).bind fun x9=>k4 (x9,(IntKind.wrap .i64 (x3+1))))) else some out2)) Q5 ([],0)=some R∧EvsU l R:=by
  refine Qdb (fun x:List Int×Int=>∃ n:Nat,x.2=n∧n≤l.length∧EvsU (l.take n) x.1) (fun x=>l.length-x.2.toNat) (fun _ r=>∃ R,r=some R∧EvsU l R) ?_ Q5 ([],0) ⟨0,rfl,Nat.zero_le _,.nil,fun x=>by simp⟩ (by unfold Q5;dsimp only;omega);rintro k ⟨out,x⟩ ⟨n,hx,hn,he⟩ ih;dsimp only at hx he ih ⊢;subst hx;by_cases hlt:n<l.length
  ·have ha:=h.r _ (List.getElem_mem hlt);have hl1:out.length≤32:=Qbbt he.so fun x hx=>by
    obtain ⟨a,ha,hx⟩:=(he.me x).1 hx;exact (h.r a (List.mem_of_mem_take ha)).al0 x hx
   have hl2:=ha.small.2.1;obtain ⟨R,k1,k2,k3⟩:=Qbgw he.so ha.al (by unfold Go.Abs.big;omega);rw [if_pos (by omega),Q6 hlt,Option.bind_some,k1,Option.bind_some,Qbi (by omega)];refine ih (R,((n+1:Nat):Int)) ⟨n+1,rfl,hlt,k2,fun x=>?_⟩ (by dsimp only;omega);rw [k3,he.me];have htk:l.take (n+1)=l.take n++[l[n]]:=List.take_succ_eq_append_getElem hlt;rw [htk];constructor
   ·rintro (⟨a,ha,hx⟩|hx)
    ·exact ⟨a,List.mem_append_left _ ha,hx⟩
    ·exact ⟨l[n],List.mem_append_right _ (List.mem_singleton_self _),hx⟩
   ·rintro ⟨a,ha,hx⟩;rcases List.mem_append.1 ha with ha|ha
    ·exact .inl ⟨a,ha,hx⟩
    ·simp only [List.mem_singleton] at ha;subst ha;exact .inr hx
  ·rw [if_neg (by omega)];have:n=l.length:=by omega
   subst this;rw [List.take_length] at he;exact ⟨out,rfl,he⟩
 rw [h1];exact ⟨R,rfl,h2⟩
theorem Qbby {R:List Int} (hR:Qf2 l=some R):Qm5 l=some ⟨l,R,l.map edM⟩:=by
 unfold Qm5 Qf5;obtain ⟨fuel,hfu,hge⟩ : ∃ f,Q5=f∧1099511627776≤f:=⟨_,rfl,Nat.le_refl _⟩;have hn:=h.n;rw [hfu,hR,Option.bind_some];refine Option.bind_eq_some_iff.2 ⟨([],[],[],l.map edM),?_,rfl⟩;refine (Q4c (l:=l) (fun i (s:List (List ((Int×Int)×Int)))=>(i,([]:List Qa),([]:List Int),([]:List (List ((Int×Int)×Int))),s)) (fun s a=>s++[edM a]) (fun n s=>s.length≤n) (fun s=>some ([],[],[],s)) h.big hge (fun k n s hn' hs=>?_) (fun n s _ hs=>by simp only [List.length_append,List.length_cons,List.length_nil];omega) (fun k s hs=>?_) (s0:=[]) (by simp)).trans ?_
 ·dsimp only;rw [if_pos (by omega),Q6 hn',Option.bind_some];have ha:=(h.r _ (List.getElem_mem hn')).small;rw [Q4c (l:=l[n].zD) (fun i (s:List ((Int×Int)×Int))=>(i,s)) (fun c x=>setM c (x.From,x.Event) x.To) (fun _ _=>True) (fun s=>some s) ha.1.2.2 hge (fun k m s hm _=>?_) (fun _ _ _ _=>trivial) (fun k s _=>?_) (s0:=[]) trivial]
  ·rw [Option.bind_some,Qck (by simp only [List.length_cons,List.length_nil];unfold lim;omega),Option.bind_some,Option.bind_some]
   rfl
  ·dsimp only;rw [if_pos (by omega),Q6 hm,Option.bind_some]
  ·dsimp only;rw [if_neg (by omega)]
 ·dsimp only;rw [if_neg (by omega)]
 ·have:∀ (m:List Qa) (s:List (List ((Int×Int)×Int))),m.foldl (fun s a=>s++[edM a]) s=s++m.map edM:=fun m=>by
   induction m with
   | nil=>intro s;simp
   | cons a m ih=>intro s;rw [List.foldl_cons,ih];simp
  rw [this,List.nil_append]
variable {R:List Int} (hR:EvsU l R)
theorem Q53:Qfi ⟨l,R,l.map edM⟩=some (if l.any (fun a=>a.zF==0) then ([],false) else (List.replicate l.length 0,true)):=by
 unfold Qfi Qb4;obtain ⟨fuel,hfu,hge⟩ : ∃ f,Q5=f∧1099511627776≤f:=⟨_,rfl,Nat.le_refl _⟩;have hn:=h.n;rw [hfu];dsimp only;have hmk:mkO ((l.length:Nat):Int) (0:Int)=some (List.replicate l.length 0):=by unfold mkO lim;rw [if_pos (by omega),Int.toNat_natCast]
 rw [Qbe5 (l:=l) (fun i=>i) (fun a=>a.zF==0) (fun _=>some ([],false)) (some (List.replicate l.length 0,true)) h.big hge (fun k n hn'=>?_) (fun k=>?_)]
 ·cases hf:l.find? fun a=>a.zF==0 with
  | none =>
   have:l.any (fun a=>a.zF==0)=false:=by
    rw [List.find?_eq_none] at hf;rw [List.any_eq_false];exact hf
   rw [this];rfl
  | some x =>
   have:l.any (fun a=>a.zF==0)=true:=List.any_eq_true.2 ⟨x,List.mem_of_find?_eq_some hf,List.find?_some (p:=fun a:Qa=>a.zF==0) hf⟩;rw [this];rfl
 ·rw [if_pos (by omega),Q6 hn',Option.bind_some]
 ·rw [if_neg (by omega),hmk,Option.bind_some,Q4d (by simp),Option.bind_some]
theorem Qbff {t:List Int} (ht:InT l t):Qfx ⟨l,R,l.map edM⟩ t=some (mkT l t):=by
 unfold Qfx Qcd;obtain ⟨fuel,hfu,hge⟩ : ∃ f,Q5=f∧1099511627776≤f:=⟨_,rfl,Nat.le_refl _⟩;have hn:=h.n;have hl:=ht.len;rw [hfu];dsimp only;unfold mkT;refine Qkj (len:=l.length) (fun n=>some (((l.zip t).drop n).all fun q=>decide (q.2∈q.1.zC))) (by omega) (fun k n hn' hk=>?_) (fun k=>?_)
 ·have ha:=h.r _ (List.getElem_mem hn');rw [if_pos (by omega),Q6 hn',Option.bind_some,Q6 (show n<t.length by omega),Option.bind_some,Qp7 ha.ma ha.small.1.2.1,Option.bind_some,Qbi (by omega),hk,List.drop_eq_getElem_cons (show n<(l.zip t).length by rw [List.length_zip];omega),List.all_cons,List.getElem_zip];by_cases hm:t[n]∈l[n].zC
  ·rw [decide_eq_true hm,if_pos rfl,Bool.true_and]
  ·rw [decide_eq_false hm,if_neg (by simp),Bool.false_and]
 ·rw [if_neg (by omega),List.drop_of_length_le (by rw [List.length_zip];omega)];rfl
theorem Qbgx {t:List Int} (ht:InT l t) (hne:t≠[]) (e:Int):Qgn ⟨l,R,l.map edM⟩ t e=some (match Qwo l t e with|some r=>(r,true)|none=>([],false)):=by
 unfold Qgn Qct;obtain ⟨fuel,hfu,hge⟩ : ∃ f,Q5=f∧1099511627776≤f:=⟨_,rfl,Nat.le_refl _⟩;have hn:=h.n;have hl:=ht.len;have hc:Qbz t=some t:=by
  unfold Qbz Qk;cases t with
  | nil=>exact absurd rfl hne
  | cons x t=>first|rfl|(show (appO [] (x::t)).bind _=_;rw [Qck (by simp only [List.length_nil];unfold lim;simp only [List.length_cons] at hl ⊢;omega)];simp)
 have hno:neO t=some ():=by
  cases t with
  | nil=>exact absurd rfl hne
  | cons x t=>rfl
 rw [hfu,hc,Option.bind_some,hno,Option.bind_some];dsimp only;have hS:Q4u e [] (l.zip t)=Qwo l t e:=by rw [Qbbx];cases Qwo l t e<;>simp
 rw [← hS];refine Q2g (fun x:Int×List Int=>∃ (n:Nat) (acc:List Int),x.1=n∧n≤l.length∧acc.length=n∧x.2=acc++t.drop n∧Q4u e acc ((l.zip t).drop n)=Q4u e [] (l.zip t)) (fun x=>l.length-x.1.toNat) _ ⟨0,[],rfl,Nat.zero_le _,rfl,by simp,by simp⟩ (by dsimp only;omega) ?_;rintro k ⟨x,nx⟩ ⟨n,acc,hx,hnl,hacc,hnx,hst⟩ ih;dsimp only at hx hnx hst ih ⊢;subst hx hnx;by_cases hlt:n<l.length
 ·have ha:=h.r _ (List.getElem_mem hlt);rw [if_pos (by omega)];unfold letJ;dsimp only;rw [Q6 hlt,Option.bind_some,Qp7 ha.al ha.small.1.1,Option.bind_some,Qbi (by omega)];rw [List.drop_eq_getElem_cons (show n<(l.zip t).length by rw [List.length_zip];omega),List.getElem_zip,Q4u] at hst;have htn:t.drop n=t[n]::t.drop (n+1):=List.drop_eq_getElem_cons (by omega);unfold Qbco at hst;dsimp only at hst;by_cases hm:e∈l[n].zB
  ·rw [if_pos hm] at hst;rw [decide_eq_true hm,if_pos rfl,Q6 (show n<(l.map edM).length by simpa using hlt),Option.bind_some,Q6 (show n<t.length by omega),Option.bind_some,List.getElem_map,Qbi4 ha];by_cases h0:0≤Qgj l[n] t[n] e
   ·rw [if_pos h0] at hst;dsimp only at hst;rw [decide_eq_true h0,if_pos rfl,Q8u (by omega) (by omega),Option.bind_some,Qbi5 ha h0,Qbix (by omega) (by simp only [List.length_append,List.length_drop];omega),Option.bind_some];refine ih _ ⟨n+1,acc++[Qgj l[n] t[n] e],rfl,hlt,by simp [hacc],?_,hst⟩ (by dsimp only;omega);dsimp only;rw [htn,Int.toNat_natCast,List.set_append_right _ _ (by omega),hacc,Nat.sub_self,List.set_cons_zero,List.append_assoc];rfl
   ·rw [if_neg h0] at hst;dsimp only at hst;rw [decide_eq_false h0,if_neg (by simp),← hst]
  ·rw [if_neg hm] at hst;dsimp only at hst;rw [decide_eq_false hm,if_neg (by simp)];refine ih _ ⟨n+1,acc++[t[n]],rfl,hlt,by simp [hacc],?_,hst⟩ (by dsimp only;omega);dsimp only;rw [htn,List.append_assoc]
   first|done|rfl
 ·rw [if_neg (by omega)];have hnn:n=l.length:=by omega
  rw [List.drop_of_length_le (by rw [List.length_zip];omega),Q4u] at hst;rw [← hst,List.drop_of_length_le (by omega),List.append_nil,Q4d (by omega),Option.bind_some]
include hR in
theorem Parts.dom:DomT (Qwo l) R (InT l) 4000 where
 ky:=fun t ht x hx=>by
  obtain ⟨i,hi,rfl⟩:=List.getElem_of_mem hx;have:=ht.get i (by rw [← ht.len];exact hi) hi;have:=h.s _ (List.getElem_mem (show i<l.length by rw [← ht.len];exact hi));omega
 cl:=fun t ht e _ r hr=>Q65 h.r ht hr
 bd:=fun m hm hs=>Nat.le_trans (Qbbw hm fun x hx=>Qbbv (hs x hx)) h.b
 nn:=Nat.le_refl _
 so:=hR.so
 rg:=hR.rg h
end
end Go.Abs
end
section
namespace Go.Abs
open Go
theorem Q66 {α β:Type} {o:Option α} {K:α→Option β} {P:α→Prop} {Q:Option β→Prop} (h:∃ v,o=some v∧P v) (hk:∀ v,P v→Q (K v)):Q (o.bind K):=by
 obtain ⟨v,rfl,hv⟩:=h;exact hk v hv
structure MrgI (a:Qa) (cl:List Int) (i:Nat) (done:List Qb) (found:List Int) (es:List Qb) (c:List (Int×Int)):Prop where
 fc:FndC a.zF.toNat cl found c
 nm:∀ (j:Nat) (f:Int),found[j]? = some f→getM c (ati cl f) 0=(j:Int)
 f0:found[0]? = some 0
 so:es.Pairwise Qid
 e3:∀ (j:Nat) (f:Int) (x:Qb),found[j]? = some f→x∈outP a f→(j<i∨j=i∧x∈done)→∃ (k:Nat) (g:Int),found[k]? = some g∧ati cl g=ati cl x.To∧(⟨(j:Int),x.Event,(k:Int)⟩ : Qb)∈es
 e4:∀ y∈es,∃ (j:Nat) (f:Int) (x:Qb) (k:Nat) (g:Int),found[j]? = some f∧x∈outP a f∧y=⟨(j:Int),x.Event,(k:Int)⟩∧found[k]? = some g∧ati cl g=ati cl x.To∧(j<i∨j=i∧x∈done)
 ln:es.length≤32*i+done.length
theorem Q1b {α:Type} {l m:List α} {j:Nat} {x:α} (h:l[j]? = some x):(l++m)[j]? = some x:=by
 rw [List.getElem?_append_left (List.getElem?_eq_some_iff.1 h).1];exact h
theorem Qbbz {α:Type} {l:List α} {j:Nat} {t x:α} (h:(l++[t])[j]? = some x):l[j]? = some x∨j=l.length∧x=t:=by
 by_cases hj:j<l.length
 ·rw [List.getElem?_append_left hj] at h;exact .inl h
 ·rw [List.getElem?_append_right (by omega)] at h;have:j-l.length=0:=by
   refine Classical.byContradiction fun hne=>?_;rw [List.getElem?_eq_none (by simp;omega)] at h;cases h
  rw [this] at h;exact .inr ⟨by omega,(Option.some.inj h).symm⟩
section
variable {a:Qa} (h:Right a) {cl:List Int} (hr:∀ j:Nat,j<a.zF.toNat→0≤ati cl j∧ati cl j<a.zF.toNat)
include h
theorem Qbfg (s:Int):(outP a s).length≤32:=by
 have:=congrArg List.length (Qp3 h s);rw [List.length_map] at this;have h1:(a.zB.filter fun e=>decide (0≤Qgj a s e)).length≤a.zB.length:=List.length_filter_le _ _;have h2:=h.small.2.1;omega
theorem Qbj7 (s:Int):(outP a s).Pairwise fun x y=>x.Event<y.Event:=by
 have h1:=Qp3 h s;have h2:((outP a s).map (·.Event)).Pairwise (· < ·):=by rw [h1];exact h.al.filter _
 exact List.pairwise_map.1 h2
theorem Q88 {s:Int} {x:Qb} (hx:x∈outP a s):0≤x.To∧x.To<a.zF∧x.Event∈a.zB∧x.From=s:=by
 obtain ⟨h1,h2⟩:=List.mem_filter.1 hx;have he:=h.ed0 x h1;exact ⟨he.2.2.1,he.2.2.2.1,he.2.2.2.2,by simpa using h2⟩
theorem MrgI.add {i:Nat} {done:List Qb} {found:List Int} {es:List Qb} {c:List (Int×Int)} (hI:MrgI a cl i done found es c) {f:Int} (hf:found[i]? = some f) {x:Qb} (hx:x∈outP a f) (hlt:∀ z∈done,z.Event<x.Event) :
  (hasM c (ati cl x.To)=true→MrgI a cl i (done++[x]) found (es++[⟨(i:Int),x.Event,getM c (ati cl x.To) 0⟩]) c) ∧
  (hasM c (ati cl x.To)=false→MrgI a cl i (done++[x]) (found++[x.To]) (es++[⟨(i:Int),x.Event,(found.length:Int)⟩]) (setM c (ati cl x.To) (found.length:Int))):=by
 have hto:=Q88 h hx;have hso:∀ k:Int,(es++[(⟨(i:Int),x.Event,k⟩ : Qb)]).Pairwise Qid:=fun k=>by
  refine List.pairwise_append.2 ⟨hI.so,List.pairwise_singleton _ _,fun y hy z hz=>?_⟩;simp only [List.mem_singleton] at hz;subst hz;obtain ⟨j,f',x',k',g,q1,q2,q3,q4,q5,q6⟩:=hI.e4 y hy;subst q3;unfold Qid;dsimp only;rcases q6 with q6|⟨q6,q7⟩
  ·exact .inl (by omega)
  ·exact .inr ⟨by omega,hlt x' q7⟩
 have hln:(es++[(⟨(i:Int),x.Event,(0:Int)⟩ : Qb)]).length≤32*i+(done++[x]).length:=by have:=hI.ln;simp;omega
 constructor
 ·intro hh;obtain ⟨g,hg,eg⟩:=(hI.fc.has _).1 hh;obtain ⟨k,hk,ek⟩:=List.getElem_of_mem hg;have hk' : found[k]? = some g:=by rw [List.getElem?_eq_getElem hk,ek]
  have hkn:=hI.nm k g hk';rw [eg] at hkn;rw [hkn];refine ⟨hI.fc,hI.nm,hI.f0,hso _,fun j f' x' q1 q2 q3=>?_,fun y hy=>?_,by simpa using hln⟩
  ·by_cases q4:j<i∨j=i∧x' ∈ done
   ·obtain ⟨k',g',p1,p2,p3⟩:=hI.e3 j f' x' q1 q2 q4;exact ⟨k',g',p1,p2,List.mem_append_left _ p3⟩
   ·have q5:j=i∧x'=x:=by
     rcases q3 with q3|⟨q3,q5⟩
     ·exact absurd (.inl q3) q4
     ·rcases List.mem_append.1 q5 with q5|q5
      ·exact absurd (.inr ⟨q3,q5⟩) q4
      ·simp at q5;exact ⟨q3,q5⟩
    obtain ⟨rfl,rfl⟩:=q5;exact ⟨k,g,hk',eg,by simp⟩
  ·rcases List.mem_append.1 hy with hy|hy
   ·obtain ⟨j,f',x',k',g',q1,q2,q3,q4,q5,q6⟩:=hI.e4 y hy;exact ⟨j,f',x',k',g',q1,q2,q3,q4,q5,by rcases q6 with q6|⟨q6,q7⟩;exact .inl q6;exact .inr ⟨q6,List.mem_append_left _ q7⟩⟩
   ·simp only [List.mem_singleton] at hy;exact ⟨i,f,x,k,g,hf,hx,hy,hk',eg,.inr ⟨rfl,by simp⟩⟩
 ·intro hh;have hne:∀ (j:Nat) (f' : Int),found[j]? = some f'→ati cl f' ≠ ati cl x.To:=fun j f' q e=>by
   have:=(hI.fc.has (ati cl x.To)).2 ⟨f',List.mem_of_getElem? q,e⟩;rw [hh] at this;cases this
  have hnew:(found++[x.To])[found.length]? = some x.To:=by simp
  refine ⟨hI.fc.add ⟨hto.1,by have:=h.st;omega⟩ hh _,fun j f' q=>?_,Q1b hI.f0,hso _,fun j f' x' q1 q2 q3=>?_,fun y hy=>?_,by simpa using hln⟩
  ·rw [Q4i];rcases Qbbz q with q|⟨q1,q2⟩
   ·rw [if_neg (hne j f' q)];exact hI.nm j f' q
   ·subst q1 q2;rw [if_pos rfl]
  ·have hi:i<found.length:=(List.getElem?_eq_some_iff.1 hf).1;have q1' : found[j]? = some f':=by
    rcases Qbbz q1 with q|⟨p1,p2⟩
    ·exact q
    ·exfalso;rcases q3 with q3|⟨q3,_⟩<;>omega
   by_cases q4:j<i∨j=i∧x' ∈ done
   ·obtain ⟨k',g',p1,p2,p3⟩:=hI.e3 j f' x' q1' q2 q4;exact ⟨k',g',Q1b p1,p2,List.mem_append_left _ p3⟩
   ·have q5:j=i∧x'=x:=by
     rcases q3 with q3|⟨q3,q5⟩
     ·exact absurd (.inl q3) q4
     ·rcases List.mem_append.1 q5 with q5|q5
      ·exact absurd (.inr ⟨q3,q5⟩) q4
      ·simp at q5;exact ⟨q3,q5⟩
    obtain ⟨rfl,rfl⟩:=q5;exact ⟨found.length,x'.To,hnew,rfl,by simp⟩
  ·rcases List.mem_append.1 hy with hy|hy
   ·obtain ⟨j,f',x',k',g',q1,q2,q3,q4,q5,q6⟩:=hI.e4 y hy;exact ⟨j,f',x',k',g',Q1b q1,q2,q3,Q1b q4,q5,by rcases q6 with q6|⟨q6,q7⟩;exact .inl q6;exact .inr ⟨q6,List.mem_append_left _ q7⟩⟩
   ·simp only [List.mem_singleton] at hy;exact ⟨i,f,x,found.length,x.To,Q1b hf,hx,hy,hnew,rfl,.inr ⟨rfl,by simp⟩⟩
theorem MrgI.next {i:Nat} {found:List Int} {es:List Qb} {c:List (Int×Int)} {f:Int} (hf:found[i]? = some f) (hI:MrgI a cl i (outP a f) found es c):MrgI a cl (i+1) [] found es c:=by
 refine ⟨hI.fc,hI.nm,hI.f0,hI.so,fun j f' x q1 q2 q3=>?_,fun y hy=>?_,by have:=hI.ln;have:=Qbfg h f;simp;omega⟩
 ·refine hI.e3 j f' x q1 q2 ?_;rcases q3 with q3|⟨_,q3⟩
  ·by_cases e:j=i
   ·subst e;rw [hf] at q1;cases q1;exact .inr ⟨rfl,q2⟩
   ·exact .inl (by omega)
  ·cases q3
 ·obtain ⟨j,f',x,k,g,q1,q2,q3,q4,q5,q6⟩:=hI.e4 y hy;exact ⟨j,f',x,k,g,q1,q2,q3,q4,q5,.inl (by rcases q6 with q6|⟨q6,_⟩<;>omega)⟩
end
structure Qbgy (m a:Qa) (R:Int→Int→Prop):Prop where
 z:0<a.zF→R 0 0
 st:∀ k s,R k s→0≤k∧k<m.zF∧0≤s∧s<a.zF
 stp:∀ k s,R k s→∀ e,(Qgj m k e = -1∧Qgj a s e = -1)∨R (Qgj m k e) (Qgj a s e)
structure MksM (i:Nat) (ms:List Int):Prop where
 rg:∀ x∈ms,0≤x∧x<i
 so:ms.Pairwise (· < ·)
theorem MksM.len {i:Nat} {ms:List Int} (h:MksM i ms):ms.length≤i:=by
 have hn:ms.Nodup:=h.so.imp fun q=>by omega
 have:=Q2k hn (m:=(List.range i).map fun j:Nat=>(j:Int)) fun v hv=>List.mem_map.2 ⟨v.toNat,List.mem_range.2 (by have:=h.rg v hv;omega),by have:=h.rg v hv;omega⟩;simpa using this
theorem MksM.add {i:Nat} {ms:List Int} (h:MksM i ms):MksM (i+1) (ms++[(i:Int)]):=by
 refine ⟨fun x hx=>?_,List.pairwise_append.2 ⟨h.so,List.pairwise_singleton _ _,fun x hx y hy=>?_⟩⟩
 ·rcases List.mem_append.1 hx with hx|hx
  ·have:=h.rg x hx;omega
  ·simp at hx;omega
 ·simp at hy;have:=h.rg x hx;omega
theorem MksM.up {i:Nat} {ms:List Int} (h:MksM i ms):MksM (i+1) ms:=⟨fun x hx=>by have:=h.rg x hx;omega,h.so⟩
theorem Qbfh {a:Qa} (h:Right a) {cl:List Int} (hcl:cl.length=a.zF.toNat) (hr:∀ j:Nat,j<a.zF.toNat→0≤ati cl j∧ati cl j<a.zF.toNat) (hc:Cons a cl) :
  ∃ m R,Qlz a cl=some m∧Right m∧m.zB=a.zB∧(m.zF=0↔a.zF=0)∧m.zF≤a.zF∧Qbgy m a R:=by
 unfold Qlz Qfq;have hst:=h.st;have hsm:=h.small;rw [Q61 (by have:=hsm.2.1;unfold lim;omega),Option.bind_some];by_cases h0:a.zF=0
 ·rw [if_pos (by simp [h0])];exact ⟨_,fun _ _=>False,rfl,⟨h.al0,h.al,⟨by simp,by simp⟩,by simp,.nil,by simp,.nil⟩,rfl,by simp [h0],by simp [h0],⟨fun hq=>by omega,fun _ _ hq=>hq.elim,fun _ _ hq=>hq.elim⟩⟩
 rw [if_neg (by simpa using h0)];obtain ⟨b,hb,hbl⟩:=Qbbp h;rw [Q81 h,Option.bind_some,hb,Option.bind_some];have hpos:0<a.zF.toNat:=by omega
 have hc0:getO cl 0=some (ati cl 0):=by
  rw [show (0:Int)=((0:Nat):Int) from rfl,Q6 (by omega:0<cl.length)];simp [ati,at0,List.getD_eq_getElem?_getD,show 0<cl.length from by omega]
 rw [hc0,Option.bind_some];obtain ⟨fuel,hfu,hge⟩ : ∃ f,Q5=f∧1099511627776≤f:=⟨_,rfl,Nat.le_refl _⟩;rw [hfu];have hI0:MrgI a cl 0 [] [0] [] (setM ([]:List (Int×Int)) (ati cl 0) 0):=by
  refine ⟨⟨fun f hf=>by simp at hf;subst hf;omega,by simp,fun v=>?_⟩,fun j f hj=>?_,rfl,.nil,fun j f x _ _ q=>?_,fun y hy=>by simp at hy,by simp⟩
  ·simp only [setM,hasM,List.any_cons,List.any_nil,Bool.or_false,beq_iff_eq];constructor
   ·intro e;exact ⟨0,by simp,e.symm⟩
   ·rintro ⟨f,hf,e⟩;simp at hf;subst hf;exact e.symm
  ·have:j=0∧f=0:=by
    cases j with
    | zero=>simp at hj;exact ⟨rfl,hj.symm⟩
    | succ j=>simp at hj
   obtain ⟨rfl,rfl⟩:=this;simp [setM,getM]
  ·rcases q with q|⟨_,q⟩
   ·omega
   ·cases q
 have hEl:((upto a.zF).map (outP a)).length=a.zF.toNat:=by simp [Q0a]
 have hrow:∀ f:Int,0≤f→f<a.zF.toNat→getO ((upto a.zF).map (outP a)) f=some (outP a f):=fun f f0 f1=>by
  obtain ⟨n,rfl⟩ : ∃ n:Nat,f=(n:Int):=⟨f.toNat,by omega⟩;rw [Q6 (by omega)];simp only [List.getElem_map,Q2j]
 have hcv:∀ x:Int,0≤x→x<a.zF→getO cl x=some (ati cl x):=fun x x0 x1=>Qbiw x0 (by omega);refine Q66 (P:=fun r=>∃ (found ms:List Int) (es:List Qb) (c:List (Int×Int)),r=(found,[],[],[],ms,es,c)∧MrgI a cl found.length [] found es c∧MksM found.length ms) (Q:=fun r=>∃ m R,r=some m∧Right m∧m.zB=a.zB∧(m.zF=0↔a.zF=0)∧m.zF≤a.zF∧Qbgy m a R) ?_ ?_
 ·refine Qdb (fun x:List Int×Int×List Int×List Int×List Qb×List Int×List Qb×List (Int×Int)=>∃ (i:Nat) (found ms:List Int) (es:List Qb) (c:List (Int×Int)),x=(found,(i:Int),[],[],[],ms,es,c)∧i≤found.length∧MrgI a cl i [] found es c∧MksM i ms) (fun x=>a.zF.toNat-x.2.1.toNat) (fun _ r=>∃ v,r=some v∧∃ (found ms:List Int) (es:List Qb) (c:List (Int×Int)),v=(found,[],[],[],ms,es,c)∧MrgI a cl found.length [] found es c∧MksM found.length ms) (fun k x hx ih=>?_) fuel _ ⟨0,[0],[],[],_,rfl,by simp,hI0,⟨by simp,.nil⟩⟩ (by dsimp only;omega);obtain ⟨i,found,ms,es,c,rfl,hi,hI,hM⟩:=hx;dsimp only;have hfl:=hI.fc.len hr;by_cases hlt:i<found.length
  ·have hf:found[i]? = some found[i]:=List.getElem?_eq_getElem hlt;have hfr:=hI.fc.rg _ (List.getElem_mem hlt);have hgo:getO found (i:Int)=some found[i]:=Q6 hlt;generalize found[i]=f at hf hfr hgo;have hbf:∃ v,getO b f=some v:=by
    obtain ⟨n,rfl⟩ : ∃ n:Nat,f=(n:Int):=⟨f.toNat,by omega⟩;exact ⟨_,Q6 (by omega)⟩
   obtain ⟨v,hv⟩:=hbf;rw [if_pos (by omega),hgo,Option.bind_some,hv,Option.bind_some];have hms:=hM.len;have hmk:∃ ms',(if v=true then (appO ms [(i:Int)]).bind fun x27=>some x27 else some ms)=some ms'∧MksM (i+1) ms':=by
    cases v with
    | true=>exact ⟨_,by rw [if_pos rfl,Qck (by simp only [List.length_cons,List.length_nil];unfold lim;omega),Option.bind_some],hM.add⟩
    | false=>exact ⟨ms,rfl,hM.up⟩
   obtain ⟨ms',hm1,hm2⟩:=hmk;rw [hm1,Option.bind_some,Option.bind_some,hrow f hfr.1 hfr.2,Option.bind_some];have hol:=Qbfg h f;refine Q66 (P:=fun r=>∃ (found' : List Int) (es' : List Qb) (c' : List (Int×Int)),r=(found',ms',es',c')∧MrgI a cl i (outP a f) found' es' c'∧found'[i]? = some f) (Q:=fun r=>∃ v,r=some v∧∃ (found ms:List Int) (es:List Qb) (c:List (Int×Int)),v=(found,[],[],[],ms,es,c)∧MrgI a cl found.length [] found es c∧MksM found.length ms) ?_ ?_
   ·refine Qdb (fun x:List Int×Int×List Qb×List (Int×Int)=>∃ (j:Nat) (found' : List Int) (es' : List Qb) (c' : List (Int×Int)),x=(found',(j:Int),es',c')∧j≤(outP a f).length∧MrgI a cl i ((outP a f).take j) found' es' c'∧found'[i]? = some f) (fun x=>(outP a f).length-x.2.1.toNat) (fun _ r=>∃ v,r=some v∧∃ (found' : List Int) (es' : List Qb) (c' : List (Int×Int)),v=(found',ms',es',c')∧MrgI a cl i (outP a f) found' es' c'∧found'[i]? = some f) (fun k2 x hx ih2=>?_) fuel _ ⟨0,found,es,c,rfl,by omega,by simpa using hI,hf⟩ (by dsimp only;omega);obtain ⟨j,fd,ed,cd,rfl,hj,hJ,hfd⟩:=hx;dsimp only;by_cases hjl:j<(outP a f).length
    ·have hx:=List.getElem_mem hjl;have hto:=Q88 h hx;have hord:∀ z∈(outP a f).take j,z.Event<((outP a f)[j]).Event:=fun z hz=>by
      obtain ⟨n,hn,rfl⟩:=List.getElem_of_mem hz;rw [List.length_take] at hn;rw [List.getElem_take];exact List.pairwise_iff_getElem.1 (Qbj7 h f) n j (by omega) hjl (by omega)
     have hadd:=hJ.add h hfd hx hord;have htk:(outP a f).take (j+1)=(outP a f).take j++[(outP a f)[j]]:=List.take_succ_eq_append_getElem hjl;have hfdl:=hJ.fc.len hr;have hel0:((outP a f).take j).length≤32:=by rw [List.length_take];omega
     have hel:ed.length≤200000:=by have:=hJ.ln;omega
     have hge' : getO (outP a f) (j:Int)=some (outP a f)[j]:=Q6 hjl;rw [← htk] at hadd;generalize (outP a f)[j]=x at hx hto hadd hge';rw [if_pos (by omega),hge',Option.bind_some,hcv x.To hto.1 hto.2.1,Option.bind_some];cases hh:hasM cd (ati cl x.To) with
     | true =>
      rw [if_pos rfl,Option.bind_some,Qck (by simp only [List.length_cons,List.length_nil];unfold lim;omega),Option.bind_some,Qbi (by omega)];exact ih2 _ ⟨j+1,_,_,_,rfl,by omega,hadd.1 hh,hfd⟩ (by dsimp only;omega)
     | false =>
      rw [if_neg (by simp),Option.bind_some,Qck (by simp only [List.length_cons,List.length_nil];unfold lim;omega),Option.bind_some,Option.bind_some,Qck (by simp only [List.length_cons,List.length_nil];unfold lim;omega),Option.bind_some,Qbi (by omega)];exact ih2 _ ⟨j+1,_,_,_,rfl,by omega,hadd.2 hh,Q1b hfd⟩ (by dsimp only;omega)
    ·rw [if_neg (by omega)];have:j=(outP a f).length:=by omega
     subst this;rw [List.take_length] at hJ;exact ⟨_,rfl,fd,ed,cd,rfl,hJ,hfd⟩
   ·rintro _ ⟨found',es',c',rfl,hI',hf'⟩;dsimp only;rw [Qbi (by omega)];exact ih _ ⟨i+1,found',ms',es',c',rfl,by have:=(List.getElem?_eq_some_iff.1 hf').1;omega,hI'.next h hf',hm2⟩ (by dsimp only;omega)
  ·rw [if_neg (by omega)];have:i=found.length:=by omega
   subst this;exact ⟨_,rfl,found,ms,es,c,rfl,hI,hM⟩
 ·rintro _ ⟨found,ms,es,c,rfl,hI,hM⟩;have hfl:=hI.fc.len hr;have hpl:0<found.length:=(List.getElem?_eq_some_iff.1 hI.f0).1;have hR:Right ⟨a.zB,(found.length:Int),ms,es⟩:=by
   refine ⟨h.al0,h.al,⟨by dsimp only;omega,by dsimp only;omega⟩,fun x hx=>?_,hM.so,fun y hy=>?_,hI.so⟩
   ·have:=hM.rg x hx;dsimp only;omega
   ·obtain ⟨j,f,x,k,g,q1,q2,rfl,q4,q5,q6⟩:=hI.e4 y hy;have p1:=(List.getElem?_eq_some_iff.1 q1).1;have p2:=(List.getElem?_eq_some_iff.1 q4).1;have p3:=Q88 h q2;exact ⟨by dsimp only;omega,by dsimp only;omega,by dsimp only;omega,by dsimp only;omega,p3.2.2.1⟩
  refine ⟨_,fun k s=>∃ (n:Nat) (f:Int),k=(n:Int)∧found[n]? = some f∧0≤s∧s<a.zF∧ati cl s=ati cl f,rfl,hR,rfl,?_,?_,?_,?_,?_⟩
  ·dsimp only;omega
  ·dsimp only;omega
  ·intro hq;exact ⟨0,0,rfl,hI.f0,Int.le_refl _,hq,rfl⟩
  ·rintro k s ⟨n,f,rfl,q1,q2,q3,q4⟩;have p1:=(List.getElem?_eq_some_iff.1 q1).1;exact ⟨by omega,by dsimp only;omega,q2,q3⟩
  ·rintro k s ⟨n,f,rfl,q1,q2,q3,q4⟩ e;have hfr:=hI.fc.rg f (List.mem_of_getElem? q1);have hcs:=hc s.toNat f.toNat (by omega) (by omega) (by rw [show ((s.toNat:Nat):Int)=s from by omega,show ((f.toNat:Nat):Int)=f from by omega];exact q4);rw [show ((s.toNat:Nat):Int)=s from by omega,show ((f.toNat:Nat):Int)=f from by omega] at hcs;rcases Qt2 h s e with hs|hs
   ·refine .inl ⟨?_,hs⟩;rcases Qt2 hR (n:Int) e with ht|ht
    ·exact ht
    ·exfalso;obtain ⟨y,hy,hye⟩:=(Qq5 hR).1 ht.1;have hyf:=Q88 hR hy;obtain ⟨j,f',x,k',g,p1,p2,rfl,p4,p5,p6⟩:=hI.e4 y (List.mem_filter.1 hy).1;have hjn:j=n:=by have:=hyf.2.2.2;dsimp only at this;omega
     subst hjn;rw [q1] at p1;cases p1;have:edC cl x∈(outP a s).map (edC cl):=by rw [hcs];exact List.mem_map.2 ⟨x,p2,rfl⟩
     obtain ⟨z,hz,hze⟩:=List.mem_map.1 this;have hz2:z.Event=x.Event:=congrArg Prod.fst hze;have:=(Qq5 h (s:=s) (e:=e)).2 ⟨z,hz,by rw [hz2];exact hye⟩;omega
   ·obtain ⟨x,hx,hxe⟩:=(Qq5 h).1 hs.1;have hxs:=Qz7 h hx;rw [hxe] at hxs;have:edC cl x∈(outP a f).map (edC cl):=by rw [← hcs];exact List.mem_map.2 ⟨x,hx,rfl⟩
    obtain ⟨z,hz,hze⟩:=List.mem_map.1 this;have hz2:z.Event=x.Event:=congrArg Prod.fst hze;have hz3:ati cl z.To=ati cl x.To:=congrArg Prod.snd hze;obtain ⟨k',g,p1,p2,p3⟩:=hI.e3 n f z q1 hz (.inl ((List.getElem?_eq_some_iff.1 q1).1));have hst2:=Qz7 hR (s:=(n:Int)) (x:=⟨(n:Int),z.Event,(k' : Int)⟩) (List.mem_filter.2 ⟨p3,by simp⟩);dsimp only at hst2;rw [hz2,hxe] at hst2;right;rw [hst2,hxs];have hto:=Q88 h hx;exact ⟨k',g,rfl,p1,hto.1,hto.2.1,by rw [p2,hz3]⟩
theorem Q98 {a:Qa} (h:Right a):∃ m R,Qcj a=some (m,0)∧Right m∧m.zB=a.zB∧(m.zF=0↔a.zF=0)∧m.zF≤a.zF∧Qbgy m a R:=by
 obtain ⟨cl,e1,e2,e3,e4⟩:=Q82 h;obtain ⟨m,R,q1,q2⟩:=Qbfh h e2 e3 e4;refine ⟨m,R,?_,q2⟩;unfold Qcj Q8;rw [Qyw h,Option.bind_some,if_neg (by simp),e1,Option.bind_some,q1,Option.bind_some]
end Go.Abs
end
section
namespace Go.Abs
open Go
theorem Q99 {l:List Qa} (h:Parts l) {t:List Int} (ht:InT l t):keyI t=some (keyB t)∧Q62 t:=by
 have hk:Q62 t:=fun x hx=>by
  obtain ⟨i,hi,rfl⟩:=List.getElem_of_mem hx;have:=ht.get i (by rw [← ht.len];exact hi) hi;have:=h.s _ (List.getElem_mem (show i<l.length by rw [← ht.len];exact hi));omega
 have hn:=h.n;have hl:=ht.len;refine ⟨?_,hk⟩;unfold keyI;rw [if_pos ⟨by unfold lim;omega,hk⟩]
theorem InT.zero:∀ {l:List Qa},(∀ a∈l,Right a)→l.any (fun a=>a.zF==0)=false→InT l (List.replicate l.length 0)
 | [],_,_=>trivial
 | a::l,hr,h=>by
  simp only [List.any_cons,Bool.or_eq_false_iff,beq_eq_false_iff_ne] at h;have:=(hr a (by simp)).st;exact ⟨⟨Int.le_refl _,by omega⟩,InT.zero (fun b hb=>hr b (by simp [hb])) h.2⟩
def bld0 (l:List Qa) (R:List Int):List (List Int)×List Int×List Qb :=
 bldM (Qwo l) (mkT l) R 4001 0 [] ([List.replicate l.length 0],[],setM ([]:List (ByteArray×Int)) (keyB (List.replicate l.length 0)) 0)
section
variable {l:List Qa} (h:Parts l) {R:List Int} (hR:EvsU l R)
include h
theorem Q89 (h0:l.any (fun a=>a.zF==0)=false):FndT R (InT l) 0 ([List.replicate l.length 0],[],setM ([]:List (ByteArray×Int)) (keyB (List.replicate l.length 0)) 0):=by
 have hz:=InT.zero h.r h0;refine ⟨by simp,fun x hx=>?_,?_,.nil,fun x hx=>by simp at hx⟩
 ·simp only [List.mem_singleton] at hx;subst hx;exact hz
 ·have h1:MapK ([]:List (ByteArray×Int)) []:=fun r _=>⟨by simp [hasM],fun h=>by simp at h⟩;exact h1.ins (by simp) (Q99 h hz).2
include hR
theorem Qbcp (h0:l.any (fun a=>a.zF==0)=false):Right ⟨R,((bld0 l R).1.length:Int),(bld0 l R).2.1,(bld0 l R).2.2⟩∧(∀ x∈(bld0 l R).1,InT l x)∧(bld0 l R).1.length≤4000∧[List.replicate l.length 0] <+: (bld0 l R).1 :=
 Q52 (h.dom hR) (mkT l) (Q89 h h0) ⟨fun x hx=>by simp at hx,.nil⟩ (by simp) (by omega)
theorem Qbfi (hne:l≠[]) (h0:l.any (fun a=>a.zF==0)=false) (hE:Qf2 l=some R):Q3 l=some (⟨R,((bld0 l R).1.length:Int),(bld0 l R).2.1,(bld0 l R).2.2⟩,(bld0 l R).1,0):=by
 unfold Q3 Qv;obtain ⟨fuel,hfu,hge⟩ : ∃ f,Q5=f∧1099511627776≤f:=⟨_,rfl,Nat.le_refl _⟩;have hz:=InT.zero h.r h0;have hd:=h.dom hR;have hRl:=Qbbt hR.so (hR.rg h);rw [hfu,Qwp h,Option.bind_some,if_neg (by simp),Qbby h hE,Option.bind_some,Q53 h,h0,if_neg (by simp),Option.bind_some];dsimp only;rw [if_pos rfl,(Q99 h hz).1,Option.bind_some];have hlen:=hz.len;refine Q2g (fun x:List (List Int)×Int×List Int×List Qb×List (ByteArray×Int)=>∃ i:Nat,x.2.1=i∧i≤x.1.length∧FndT R (InT l) i (x.1,x.2.2.2.1,x.2.2.2.2)∧x.2.2.1.length≤i∧x.2.2.2.1.length≤32*i ∧
  bldM (Qwo l) (mkT l) R (4001-i) i x.2.2.1 (x.1,x.2.2.2.1,x.2.2.2.2)=bld0 l R) (fun x=>4001-x.2.1.toNat) _ ⟨0,rfl,by simp,Q89 h h0,by simp,by simp,rfl⟩ (by dsimp only;omega) ?_
 rintro k ⟨st,x,ms,es,c⟩ ⟨i,hx,hi,hf,hms,hes,hB⟩ ih;dsimp only at hx hi hf hms hes hB ih ⊢;subst hx;have hN:st.length≤4000:=hf.len hd;by_cases hlt:i<st.length
 ·have hs:InT l st[i]:=hf.su _ (List.getElem_mem hlt);have hg:st[i]? = some st[i]:=List.getElem?_eq_getElem hlt;generalize hsd:st[i]=s at hs hg;rw [if_pos (by omega),Q6 hlt,Option.bind_some,hsd,Qbff h hs,Option.bind_some];obtain ⟨f,hfi⟩ : ∃ f,4001-i=f+1:=⟨4000-i,by omega⟩;rw [hfi,bldM] at hB;dsimp only at hB;rw [hg] at hB;dsimp only at hB;have hm2:(if mkT l s=true then (appO ms [(i:Int)]).bind fun x25=>some x25 else some ms)=some (if mkT l s then ms++[(i:Int)] else ms):=by
   cases mkT l s with
   | true=>rw [if_pos rfl,if_pos rfl,Qck (by simp only [List.length_cons,List.length_nil];unfold lim;omega),Option.bind_some]
   | false=>rfl
  rw [hm2,Option.bind_some];obtain ⟨r1,r2,r3⟩:=hf.row hd (i:=i) hs;have hml:(if mkT l s=true then ms++[(i:Int)] else ms).length≤i+1:=by
   split
   ·simp only [List.length_append,List.length_cons,List.length_nil];omega
   ·omega
  generalize (if mkT l s=true then ms++[(i:Int)] else ms)=ms' at hB hml;have hsne:s≠[]:=by
   intro e;have:=hs.len;rw [e] at this;exact hne (List.eq_nil_of_length_eq_zero this.symm)
  have hRw:∀ (n:Nat) (p:TS),n≤R.length→RowT R (InT l) i (R.take n) (st,es,c) p→p.1.length≤4000:=fun n p _ hp=>Nat.le_trans (hd.bd _ hp.nd hp.su) (Nat.le_refl _);refine (Q4c (l:=R) (fun j (p:TS)=>(p.1,j,p.2.1,p.2.2)) (rowM (Qwo l) i s) (fun n p=>n≤R.length∧RowT R (InT l) i (R.take n) (st,es,c) p) (fun p=>k (p.1,(IntKind.wrap .i64 ((i:Int)+1)),ms',p.2.1,p.2.2)) (by unfold big;omega) hge (fun k2 n p hn hp=>?_) (fun n p hn hp=>?_) (fun k2 p hp=>?_) (s0:=(st,es,c)) ⟨Nat.zero_le _,hf.nd,hf.su,hf.mp,List.prefix_refl _,hf.ed,fun x hx=>by
   obtain ⟨a1,a2,a3,a4,a5⟩:=hf.er x hx;exact ⟨a1,by omega,a3,a4,a5,fun hq=>by omega⟩,by simp⟩).trans ?_
  ·obtain ⟨hp0,hp⟩:=hp;have hpl:=hRw n p hp0 hp;have hpe:=hp.ln;have htl:(R.take n).length≤32:=by rw [List.length_take];omega
   dsimp only at hpe;dsimp only;rw [if_pos (by omega)];unfold letJ;dsimp only;have hgs:getO p.1 (i:Int)=some s:=by
    have:=Qmw hp.pre hg;rw [Q6 (List.getElem?_eq_some_iff.1 this).1];exact (List.getElem?_eq_getElem _).symm.trans this
   rw [Q6 hn,Option.bind_some,hgs,Option.bind_some,Qbgx h hs hsne,Option.bind_some];unfold rowM;cases hst:Qwo l s R[n] with
   | none=>rfl
   | some t =>
    have ht:=Q65 h.r hs hst;obtain ⟨hk1,hk2⟩:=Q99 h ht;obtain ⟨hm1,hm2⟩:=hp.mp t hk2;dsimp only;rw [if_pos rfl,hk1,Option.bind_some,hm1];by_cases hmem:t∈p.1
    ·rw [decide_eq_true hmem,if_pos rfl,if_pos hmem,hm2 hmem,Qck (by simp only [List.length_cons,List.length_nil];unfold lim;omega),Option.bind_some]
    ·rw [decide_eq_false hmem,if_neg (by simp),if_neg hmem,if_neg (by simp only [beq_iff_eq];omega),Option.bind_some,Qck (by simp only [List.length_cons,List.length_nil];unfold lim;omega),Option.bind_some,Qck (by simp only [List.length_cons,List.length_nil];unfold lim;omega),Option.bind_some]
  ·obtain ⟨hp0,hp⟩:=hp;refine ⟨hn,?_⟩;have htk:R.take (n+1)=R.take n++[R[n]]:=List.take_succ_eq_append_getElem hn;rw [htk];refine hp.step hd hs (List.getElem_mem hn) fun x hx=>?_;have hso:=hR.so;obtain ⟨j,hj,rfl⟩:=List.getElem_of_mem hx;rw [List.length_take] at hj;rw [List.getElem_take];exact List.pairwise_iff_getElem.1 hso j n (by omega) hn (by omega)
  ·dsimp only;rw [if_neg (by omega)]
  ·rw [Qbi (by omega)];have hle:=r2.length_le;dsimp only at hle r3;refine ih _ ⟨i+1,rfl,by dsimp only;omega,r1,hml,?_,?_⟩ (by dsimp only;omega)
   ·dsimp only;omega
   ·dsimp only;rw [show 4001-(i+1)=f from by omega];exact hB
 ·rw [if_neg (by omega)];have hg:st[i]? = none:=List.getElem?_eq_none (by omega);obtain ⟨f,hfi⟩ : ∃ f,4001-i=f+1:=⟨4000-i,by omega⟩;rw [hfi,bldM] at hB;dsimp only at hB;rw [hg] at hB;dsimp only at hB;rw [← hB]
omit hR in
theorem Qbfj (h0:l.any (fun a=>a.zF==0)=true) (hE:Qf2 l=some R):Q3 l=some (⟨R,0,[],[]⟩,[],0):=by
 unfold Q3 Qv;rw [Qwp h,Option.bind_some,if_neg (by simp),Qbby h hE,Option.bind_some,Q53 h,h0,if_pos rfl,Option.bind_some]
 rfl
end
structure Prd (l:List Qa) (A:Qa) (T:List (List Int)):Prop where
 r:Right A
 st:A.zF=T.length
 t:∀ x∈T,InT l x
 n:T.length≤4000
 ev:EvsU l A.zB
theorem Qbfk {l:List Qa} (h:Parts l) (hne:l≠[]):∃ A T,Q3 l=some (A,T,0)∧Prd l A T:=by
 obtain ⟨R,hE,hR⟩:=Qbi6 h;cases h0:l.any fun a=>a.zF==0 with
 | true=>exact ⟨_,_,Qbfj h h0 hE,{ r:={ al0:=hR.rg h,al:=hR.so,st:=⟨Int.le_refl 0,by show (0:Int)≤4096;decide⟩,ma0:=fun x hx=>by simp at hx,ma:=List.Pairwise.nil,ed0:=fun x hx=>by simp at hx,ed:=List.Pairwise.nil },st:=rfl,t:=fun x hx=>by simp at hx,n:=by simp,ev:=hR }⟩
 | false =>
  obtain ⟨k1,k2,k3,k4⟩:=Qbcp h hR h0;exact ⟨_,_,Qbfi h hR hne h0 hE,k1,rfl,k2,k3,hR⟩
end Go.Abs
end
section
namespace Go.Abs
open Go
section
variable {a:Qa} (h:Right a)
include h
end
end Go.Abs
end
section
namespace Go.Abs
open Go
section
variable {a b:Qa} {φ:Int→Int} (ha:Right a) (hb:Right b) (h:Like a b φ)
include ha hb h
end
end Go.Abs
end
section
namespace Go.Abs
open Go
def Q67 (a:Qa) (s:Int):List Qb:=a.zB.map fun e=>⟨s,e,if 0≤Qgj a s e then Qgj a s e else a.zF⟩
def Qbgz (a:Qa):Nat→List Qb
 | 0=>[]
 | n+1=>Qbgz a n++Q67 a (n:Int)
theorem Qbfl {a:Qa}:∀ n,(Qbgz a n).length=n*a.zB.length
 | 0=>by simp [Qbgz]
 | n+1=>by simp [Qbgz,Qbfl n,Q67,Nat.succ_mul]
theorem Qbi7 {a:Qa} {s:Int} {x:Qb}:x∈Q67 a s↔x.From=s∧x.Event∈a.zB∧x.To=if 0≤Qgj a s x.Event then Qgj a s x.Event else a.zF:=by
 unfold Q67;simp only [List.mem_map];constructor
 ·rintro ⟨e,he,rfl⟩;exact ⟨rfl,he,rfl⟩
 ·rintro ⟨h1,h2,h3⟩;exact ⟨x.Event,h2,by cases x;simp_all⟩
section
variable {a:Qa} (h:Right a)
include h
end
def Qs3 (n:Nat):List Int:=(List.range n).map fun i:Nat=>(i:Int)
theorem Qyz (n:Nat):Qs3 (n+1)=Qs3 n++[(n:Int)]:=by simp [Qs3,List.range_succ]
theorem Q54 (n:Nat):(Qs3 n).length=n:=by simp [Qs3]
theorem Q55 {n:Nat} {x:Int}:x∈Qs3 n↔0≤x∧x<n:=by
 unfold Qs3;simp only [List.mem_map,List.mem_range];constructor
 ·rintro ⟨i,h,rfl⟩;omega
 ·rintro ⟨h1,h2⟩;exact ⟨x.toNat,by omega,by omega⟩
theorem Q0d:∀ n,(Qs3 n).Pairwise (· < ·)
 | 0=>.nil
 | n+1=>by
  rw [Qyz,List.pairwise_append];refine ⟨Q0d n,by simp,fun x hx y hy=>?_⟩;have:=Q55.1 hx;simp at hy;omega
def Qrw (a:Qa):Qa:=⟨a.zB,a.zF,Qs3 a.zF.toNat,a.zD⟩
theorem Q68 {a:Qa} (h:Right a):Right (Qrw a) :=
 ⟨h.al0,h.al,h.st,fun x hx=>by have:=Q55.1 hx;simp only [Qrw];omega,Q0d _,h.ed0,h.ed⟩
theorem Qbfm {a:Qa} (h:Right a):Qit a=some (Qrw (Qjb a),0):=by
 have hr:=Qq6 h;have hst:=hr.st;unfold Qit Qd9;obtain ⟨fuel,hfu,hge⟩ : ∃ f,Q5=f∧1099511627776≤f:=⟨_,rfl,Nat.le_refl _⟩;rw [hfu,Qyw h,Option.bind_some,if_neg (by simp),Q4t h,Option.bind_some];generalize Qjb a=c at hr hst;have hloop:=Ql3 (len:=c.zF.toNat) (F:=(fun (k12:Int×List Int×List Int×List Qb×List Int→Option (List Int×List Int×List Qb×List Int)) ((x7,c8,c9,c10,r11):Int×(List Int)×(List Int)×(List Qb)×(List Int))=>(if (x7<c.zF) then ((appO r11 [x7]).bind fun x14=>k12 ((IntKind.wrap .i64 (x7+1)),c8,c9,c10,x14)) else some (c8,c9,c10,r11))))
  (fun n (acc:List Int)=>((n:Int),([]:List Int),([]:List Int),([]:List Qb),acc)) (fun n acc=>acc=Qs3 n) (fun n acc=>some ([],[],[],Qs3 c.zF.toNat)) (by
   intro k n acc hn hi ih;subst hi;dsimp only;rw [if_pos (by omega),Qck (by simp only [List.length_cons,List.length_nil,Q54];unfold lim;omega),Option.bind_some,Qbi (by omega)];exact ih _ (Qyz n).symm) (by
   intro k acc hi;subst hi;dsimp only;rw [if_neg (by omega)]) fuel 0 [] (Nat.zero_le _) (by omega) rfl
 refine (congrArg (fun w=>Option.bind w _) hloop).trans ?_
 rfl
end Go.Abs
end
section
namespace Go.Abs
open Go
def Q69 (s:Nat):List Int:=((List.range 5).filter fun i=>s.testBit i).map fun i:Nat=>(i:Int)
def evT (s:Nat):Bool:=match Qda (s:Int) with
 | some l=>l==Q69 s
 | none=>false
theorem Qbi8:(List.range 256).all evT=true:=by kernel_rfl
theorem Qmy {s:Int} (h0:0≤s) (h1:s<256):Qda s=some (Q69 s.toNat):=by
 have:=List.all_eq_true.1 Qbi8 s.toNat (List.mem_range.2 (by omega));unfold evT at this;rw [show ((s.toNat:Nat):Int)=s from by omega] at this;split at this
 ·rename_i l hl;rw [hl,eq_of_beq this]
 ·cases this
theorem Q0e {s:Nat} (h:s<256):Evs (Q69 s):=by
 obtain ⟨l,h1,h2⟩:=Qbe4 (s:=(s:Int)) (by omega) (by omega);rw [Qmy (by omega) (by omega)] at h1;cases h1;simpa using h2
theorem Q9a {s t:Int} (h0:0≤s) (h1:s<256) (k0:0≤t) (k1:t<256):∃ n:Nat,andI .u8 s t=(n:Int)∧n<256∧∀ x∈Q69 n,x∈Q69 s.toNat:=by
 obtain ⟨a,rfl⟩ : ∃ a:Nat,s=(a:Int):=⟨s.toNat,by omega⟩;obtain ⟨b,rfl⟩ : ∃ b:Nat,t=(b:Int):=⟨t.toNat,by omega⟩;have e:(BitVec.ofInt 8 (a:Int) &&& BitVec.ofInt 8 (b:Int)).toNat=a &&& b:=by
  simp only [BitVec.ofInt_natCast,BitVec.toNat_and,BitVec.toNat_ofNat];rw [Nat.mod_eq_of_lt (by omega),Nat.mod_eq_of_lt (by omega)]
 have hle:a &&& b≤a:=Nat.and_le_left;refine ⟨a &&& b,?_,by omega,fun x hx=>?_⟩
 ·unfold andI;show IntKind.wrap .u8 ((BitVec.ofInt 8 (a:Int) &&& BitVec.ofInt 8 (b:Int)).toNat:Int)=_;rw [e,Qbe0 (by omega) (by omega)]
 ·unfold Q69 at hx ⊢;obtain ⟨i,hi,rfl⟩:=List.mem_map.1 hx;obtain ⟨h3,h4⟩:=List.mem_filter.1 hi;rw [Nat.testBit_and,Bool.and_eq_true] at h4;exact List.mem_map.2 ⟨i,List.mem_filter.2 ⟨h3,by simpa using h4.1⟩,rfl⟩
structure Qbfn (s:Qbq):Prop where
 s0:0≤s.Sets.1∧s.Sets.1<256
 s1:0≤s.Sets.2.1∧s.Sets.2.1<256
 s2:0≤s.Sets.2.2.1∧s.Sets.2.2.1<256
 s3:0≤s.Sets.2.2.2.1∧s.Sets.2.2.2.1<256
 s4:0≤s.Sets.2.2.2.2∧s.Sets.2.2.2.2<256
 g0:Q4b s.Graphs.1
 g1:Q4b s.Graphs.2.1
 g2:Q4b s.Graphs.2.2
structure ProbW (p:Ql):Prop where
 pr:Right p.Plant
 ar:Right p.Ambient
 rr:Right p.Requirement
 p5:p.Plant.zF≤5
 a5:p.Ambient.zF≤5
 r5:p.Requirement.zF≤5
 sa:∀ x∈p.Ambient.zB,x∈p.Plant.zB
 sr:∀ x∈p.Requirement.zB,x∈p.Plant.zB
 pe:Evs p.Plant.zB
 oe:Evs p.Observable
 ce:Evs p.Controllable
theorem Qbfo {ev:List Int} (hev:Evs ev) {g:Qs} (hg:Q4b g):∃ m,Qf3 ev g=some m∧Right m∧m.zF≤5∧m.zB=ev:=by
 obtain ⟨m,hm,hmal,hM,hm5⟩:=Qbiv hev hg;refine ⟨Qjb m,hM,Qq6 hm,?_,hmal⟩;have:=(Q1a hm).1.len;show ((Qiy m).length:Int)≤5;omega
theorem Qbaa {s n:Int} (h:0≤s∧s<256) (hn:n=4∨n=2∨n=3):0≤s.tmod n∧s.tmod n<256:=by
 rw [Int.tmod_eq_emod_of_nonneg h.1];rcases hn with rfl|rfl|rfl<;>omega
theorem Qbfp {s:Qbq} (h:Qbfn s):∃ p,Qhh s=some p∧ProbW p:=by
 unfold Qhh Qdi;obtain ⟨fuel,hfu,hge⟩ : ∃ f,Q5=f∧1099511627776≤f:=⟨_,rfl,Nat.le_refl _⟩;rw [hfu,Qmy h.s0.1 h.s0.2,Option.bind_some];have hst:∀ g:Qs,Q4b g→0≤g.zF∧g.zF<256:=fun g hg=>hg.st;refine Q66 (P:=fun r:Int×Int×Int=>(0≤r.1∧r.1<256)∧(0≤r.2.1∧r.2.1<256)∧(0≤r.2.2∧r.2.2<256)) (Q:=fun r=>∃ p,r=some p∧ProbW p) ?_ ?_
 ·refine Qdb (fun x:Int×Int×Int×Int=>∃ i:Nat,x.1=(i:Int)∧i≤3∧(0≤x.2.1∧x.2.1<256)∧(0≤x.2.2.1∧x.2.2.1<256)∧(0≤x.2.2.2∧x.2.2.2<256)) (fun x=>3-x.1.toNat) (fun _ r=>∃ v:Int×Int×Int,r=some v∧(0≤v.1∧v.1<256)∧(0≤v.2.1∧v.2.1<256)∧(0≤v.2.2∧v.2.2<256)) (fun k x hx ih=>?_) fuel _ ⟨0,rfl,by omega,hst _ h.g0,hst _ h.g1,hst _ h.g2⟩ (by dsimp only;omega);obtain ⟨x,s5,s6,s7⟩:=x;obtain ⟨i,hx,hi,h5,h6,h7⟩:=hx;dsimp only at hx h5 h6 h7;subst hx;dsimp only;have key:∀ t5 t6 t7:Int,i<3→(0≤t5∧t5<256)→(0≤t6∧t6<256)→(0≤t7∧t7<256)→∃ v:Int×Int×Int,k (IntKind.wrap .i64 ((i:Int)+1),t5,t6,t7)=some v∧(0≤v.1∧v.1<256)∧(0≤v.2.1∧v.2.1<256)∧(0≤v.2.2∧v.2.2<256):=fun t5 t6 t7 hi' q5 q6 q7=>by
   rw [Qbi (by omega)];exact ih _ ⟨i+1,rfl,by omega,q5,q6,q7⟩ (by dsimp only;omega)
  by_cases hlt:i<3
  ·rw [if_pos (by omega)];have w4:remO .u8 s5 (IntKind.wrap .u8 4)=some (s5.tmod 4):=rfl;have w2:remO .u8 s6 (IntKind.wrap .u8 2)=some (s6.tmod 2):=rfl;have w3:remO .u8 s7 (IntKind.wrap .u8 3)=some (s7.tmod 3):=rfl;have r4:=Qbaa h5 (.inl rfl);have r2:=Qbaa h6 (.inr (.inl rfl));have r3:=Qbaa h7 (.inr (.inr rfl));obtain e|e|e:i=0∨i=1∨i=2:=by omega
   ·subst e;have key':=key;simp only [Int.natCast_zero] at key' ⊢;simp only [if_true,Option.bind_some];by_cases q:s5<250
    ·simp only [q,decide_true,if_true,w4,Option.bind_some];exact key' _ _ _ hlt r4 h6 h7
    ·simp only [q,decide_false,Bool.false_eq_true,if_false,Option.bind_some];exact key' _ _ _ hlt h5 h6 h7
   ·subst e;have key':=key;simp only [Int.natCast_one] at key' ⊢;have n1:¬ ((1:Int)=0):=by decide
    simp only [n1,if_true,if_false,Option.bind_some];by_cases q:s6<250
    ·simp only [q,decide_true,if_true,w2,n1,if_false,Option.bind_some];exact key' _ _ _ hlt h5 r2 h7
    ·simp only [q,decide_false,Bool.false_eq_true,if_false,Option.bind_some];exact key' _ _ _ hlt h5 h6 h7
   ·subst e;have key':=key;have e2:((2:Nat):Int)=2:=rfl;simp only [e2] at key' ⊢;have n1:¬ ((2:Int)=0):=by decide
    have n2:¬ ((2:Int)=1):=by decide
    simp only [n1,n2,if_true,if_false,Option.bind_some];by_cases q:s7<250
    ·simp only [q,decide_true,if_true,w3,n1,n2,if_false,Option.bind_some];exact key' _ _ _ hlt h5 h6 r3
    ·simp only [q,decide_false,Bool.false_eq_true,if_false,Option.bind_some];exact key' _ _ _ hlt h5 h6 h7
  ·rw [if_neg (by omega)];exact ⟨_,rfl,h5,h6,h7⟩
 ·rintro ⟨t5,t6,t7⟩ ⟨q5,q6,q7⟩;dsimp only at q5 q6 q7 ⊢;obtain ⟨n1,e1,l1,s1⟩:=Q9a h.s0.1 h.s0.2 h.s1.1 h.s1.2;obtain ⟨n2,e2,l2,s2⟩:=Q9a h.s0.1 h.s0.2 h.s2.1 h.s2.2;have v0:Evs (Q69 s.Sets.1.toNat):=Q0e (by have:=h.s0;omega);have v3:Evs (Q69 s.Sets.2.2.2.1.toNat):=Q0e (by have:=h.s3;omega);have v4:Evs (Q69 s.Sets.2.2.2.2.toNat):=Q0e (by have:=h.s4;omega);obtain ⟨m0,a1,a2,a3,a4⟩:=Qbfo v0 (g:=⟨t5,s.Graphs.1.Marks,s.Graphs.1.To⟩) ⟨q5,h.g0.to⟩;obtain ⟨m1,b1,b2,b3,b4⟩:=Qbfo (Q0e l1) (g:=⟨t6,s.Graphs.2.1.Marks,s.Graphs.2.1.To⟩) ⟨q6,h.g1.to⟩;obtain ⟨m2,c1,c2,c3,c4⟩:=Qbfo (Q0e l2) (g:=⟨t7,s.Graphs.2.2.Marks,s.Graphs.2.2.To⟩) ⟨q7,h.g2.to⟩;rw [a1,Option.bind_some,e1,Qmy (by omega) (by omega),Option.bind_some,Int.toNat_natCast,b1,Option.bind_some,e2,Qmy (by omega) (by omega),Option.bind_some,Int.toNat_natCast,c1,Option.bind_some,Qmy h.s3.1 h.s3.2,Option.bind_some,Qmy h.s4.1 h.s4.2,Option.bind_some];exact ⟨_,rfl,a2,b2,c2,a3,b3,c3,by dsimp only;rw [a4,b4];exact s1,by dsimp only;rw [a4,c4];exact s2,by dsimp only;rw [a4];exact v0,v3,v4⟩
def Few3 (r:List Qa):Prop:=∀ a∈r,Right a∧a.zF≤5
theorem Q9b:∀ {l:List Qa},Few3 l→(allT l).length≤5 ^ l.length
 | [],_=>by simp [allT]
 | a::l,h=>by
  rw [Q64,List.foldr_cons,← Q64,List.length_cons,Nat.pow_succ];have ih:=Q9b (l:=l) fun b hb=>h b (List.mem_cons_of_mem _ hb);have h5:=(h a (by simp)).2;have:a.zF.toNat≤5:=by omega
  calc a.zF.toNat*(allT l).length≤5*(allT l).length:=Nat.mul_le_mul_right _ this
   _≤5*5 ^ l.length:=Nat.mul_le_mul_left _ ih
   _=5 ^ l.length*5:=Nat.mul_comm _ _
theorem Qbfq {l:List Qa} (h:Few3 l) (hl:l.length≤3):Parts l:=by
 refine { r:=fun a ha=>(h a ha).1,s:=fun a ha=>Int.le_trans (h a ha).2 (by decide),n:=by omega,b:=Nat.le_trans (Q9b h) ?_ };exact Nat.le_trans (Nat.pow_le_pow_right (by decide) hl) (by decide)
theorem Q1c {l:List Qa} {A:Qa} {T:List (List Int)} {e:Int} (h:Q3 l=some (A,T,e)):Qgc l=some (A,e):=by
 unfold Qgc Qbh;rw [h];rfl
theorem Qbi9 {l m:List Int} (hl:l.Pairwise (· < ·)) (hm:m.Pairwise (· < ·)) (h:∀ x,x∈l↔x∈m):l=m:=by
 refine List.Perm.eq_of_pairwise (le:=(· < ·)) (fun a b _ _ h1 h2=>by omega) hl hm ?_;rw [List.perm_ext_iff_of_nodup (hl.imp fun h=>by omega) (hm.imp fun h=>by omega)];exact h
theorem Qbfr {p:Qa} (hp:Right p) {l:List Qa} (hl:∀ a∈l,∀ x∈a.zB,x∈p.zB) {R:List Int} (hR:EvsU (p::l) R):R=p.zB:=by
 refine Qbi9 hR.so hp.al fun x=>?_;rw [hR.me];constructor
 ·rintro ⟨a,ha,hx⟩;rcases List.mem_cons.1 ha with rfl|ha
  ·exact hx
  ·exact hl a ha x hx
 ·intro hx;exact ⟨p,by simp,hx⟩
section
variable {a:Qa} (h:Right a)
include h
theorem Q9c:Qgp a=some (Qrw (Qjb a)):=by
 have hr:=Qq6 h;have hst:=hr.st;unfold Qgp Qcu;obtain ⟨fuel,hfu,hge⟩ : ∃ f,Q5=f∧1099511627776≤f:=⟨_,rfl,Nat.le_refl _⟩;rw [hfu,Qwm h,Option.bind_some];generalize Qjb a=c at hr hst;have hloop:=Ql3 (len:=c.zF.toNat) (F:=(fun (k12:Int×List Int×List Int×List Qb×List Int→Option (List Int×List Int×List Qb×List Int)) ((x7,c8,c9,c10,r11):Int×(List Int)×(List Int)×(List Qb)×(List Int))=>(if (x7<c.zF) then ((appO r11 [x7]).bind fun x14=>k12 ((IntKind.wrap .i64 (x7+1)),c8,c9,c10,x14)) else some (c8,c9,c10,r11))))
  (fun n (acc:List Int)=>((n:Int),([]:List Int),([]:List Int),([]:List Qb),acc)) (fun n acc=>acc=Qs3 n) (fun n acc=>some ([],[],[],Qs3 c.zF.toNat)) (by
   intro k n acc hn hi ih;subst hi;dsimp only;rw [if_pos (by omega),Qck (by simp only [List.length_cons,List.length_nil,Q54];unfold lim;omega),Option.bind_some,Qbi (by omega)];exact ih _ (Qyz n).symm) (by
   intro k acc hi;subst hi;dsimp only;rw [if_neg (by omega)]) fuel 0 [] (Nat.zero_le _) (by omega) rfl
 refine (congrArg (fun w=>Option.bind w _) hloop).trans ?_
 rfl
theorem Q9d:∃ m R,Qcj (Qrw (Qjb a))=some (m,0)∧Right m∧m.zB=a.zB∧(m.zF=0↔(Qjb a).zF=0)∧m.zF≤(Qjb a).zF∧Qbgy m (Qrw (Qjb a)) R :=
 Q98 (Q68 (Qq6 h))
theorem Q4j {m:Qa} (hm:Qcj (Qrw (Qjb a))=some (m,0)):Qgq a=some m:=by
 unfold Qgq Qcc;rw [Q9c h,Option.bind_some,hm];rfl
theorem Q1s {m:Qa} (hm:Qcj (Qrw (Qjb a))=some (m,0)):Qhu a a.zB=some (m,0):=by
 unfold Qhu Qb5;have hsm:=h.small;rw [Qbfm h,Option.bind_some];dsimp only;rw [if_neg (by simp),Q61 (by have:=hsm.2.1;unfold lim;omega),Option.bind_some];exact (congrArg (fun w=>Option.bind w _) hm).trans rfl
end
section
variable {p:Ql} (h:ProbW p)
include h
theorem ProbW.small:Qbe2 p:=⟨h.pr.small.1,h.ar.small.1,h.rr.small.1,by have:=h.oe.len;unfold big;omega,by have:=h.ce.len;unfold big;omega⟩
theorem ProbW.check:Q8s p=0:=by
 unfold Q8s;have e1:Qhk p.Plant=0:=Qp2.2 h.pr;have e2:Qhk p.Ambient=0:=Qp2.2 h.ar;have e3:Qhk p.Requirement=0:=Qp2.2 h.rr;have s1:inAl p.Ambient.zB p.Plant.zB=true:=decide_eq_true h.sa;have s2:inAl p.Requirement.zB p.Plant.zB=true:=decide_eq_true h.sr;have le:∀ l,Evs l→Qes 32 none l=0:=fun l hl=>Qlb.2 ⟨fun x hx=>by have:=hl.rg x hx;omega,hl.so,fun y hy=>by cases hy⟩;simp [e1,e2,e3,s1,s2,le _ h.oe,le _ h.ce]
theorem ProbW.few2:Few3 [p.Plant,p.Ambient]:=fun a ha=>by
 simp only [List.mem_cons,List.not_mem_nil,or_false] at ha;rcases ha with rfl|rfl
 ·exact ⟨h.pr,h.p5⟩
 ·exact ⟨h.ar,h.a5⟩
theorem ProbW.few3:Few3 [p.Plant,p.Ambient,p.Requirement]:=fun a ha=>by
 simp only [List.mem_cons,List.not_mem_nil,or_false] at ha;rcases ha with rfl|rfl|rfl
 ·exact ⟨h.pr,h.p5⟩
 ·exact ⟨h.ar,h.a5⟩
 ·exact ⟨h.rr,h.r5⟩
theorem Qbki:∃ A T,Q3 [p.Plant,p.Ambient]=some (A,T,0)∧Prd [p.Plant,p.Ambient] A T∧A.zB=p.Plant.zB:=by
 obtain ⟨A,T,e,hp⟩:=Qbfk (Qbfq h.few2 (by simp)) (by simp);exact ⟨A,T,e,hp,Qbfr h.pr (fun a ha=>by simp at ha;subst ha;exact h.sa) hp.ev⟩
theorem Qbkj:∃ A T,Q3 [p.Plant,p.Ambient,p.Requirement]=some (A,T,0)∧Prd [p.Plant,p.Ambient,p.Requirement] A T∧A.zB=p.Plant.zB:=by
 obtain ⟨A,T,e,hp⟩:=Qbfk (Qbfq h.few3 (by simp)) (by simp);exact ⟨A,T,e,hp,Qbfr h.pr (fun a ha=>by
  simp only [List.mem_cons,List.not_mem_nil,or_false] at ha;rcases ha with rfl|rfl
  ·exact h.sa
  ·exact h.sr) hp.ev⟩
theorem Qbcq {A:Qa} {T:List (List Int)} {m:Qa} (hS:Q3 [p.Plant,p.Ambient]=some (A,T,0)) (hA:Right A) (hal:A.zB=p.Plant.zB) (hm:Qcj (Qrw (Qjb A))=some (m,0)):Qiw p=some (m,0):=by
 unfold Qiw Qea;rw [Q4a h.small,h.check,Option.bind_some,if_neg (by simp),Q1c hS,Option.bind_some];dsimp only;rw [if_neg (by simp),← hal,Q1s hA hm];rfl
theorem Qbab {A:Qa} {T:List (List Int)} {m:Qa} (hS:Q3 [p.Plant,p.Ambient,p.Requirement]=some (A,T,0)) (hA:Right A) (hal:A.zB=p.Plant.zB) (hm:Qcj (Qrw (Qjb A))=some (m,0)):Qgi p=some (m,0):=by
 unfold Qgi Qbv;rw [Q4a h.small,h.check,Option.bind_some,if_neg (by simp),Q1c hS,Option.bind_some];dsimp only;rw [if_neg (by simp),← hal,Q1s hA hm];rfl
theorem Qbfs {A B:Qa} {T U:List (List Int)} (hS:Q3 [p.Plant,p.Ambient]=some (A,T,0)) (hA:Prd [p.Plant,p.Ambient] A T) (hU:Q3 [p.Plant,p.Ambient,p.Requirement]=some (B,U,0)) :
  Qhi p=some (⟨p,A,B,T.map fun t=>ati t 0⟩,true):=by
 unfold Qhi Qdj;obtain ⟨fuel,hfu,hge⟩ : ∃ f,Q5=f∧1099511627776≤f:=⟨_,rfl,Nat.le_refl _⟩;rw [hfu,hS,Option.bind_some];dsimp only;rw [Q1c hU,Option.bind_some];dsimp only;have hn:=hA.n;refine Q66 (P:=fun r:List Int×List Int×List Qb×List Int×List Int×List Qb×List Int×List Int×List Qb×List Int×List Int×List Int×List Int×List Qb×List Int×List Int×List Qb×List Int×List Int=>r.2.2.2.2.2.2.2.2.2.2.2.2.2.2.2.2.2.2=T.map fun t=>ati t 0) (Q:=fun r:Option (Qdd×Bool)=>r=some (⟨p,A,B,T.map fun t=>ati t 0⟩,true)) ?_ ?_
 ·refine Qdb (fun x:Int×List Int×List Int×List Qb×List Int×List Int×List Qb×List Int×List Int×List Qb×List Int×List Int×List Int×List Int×List Qb×List Int×List Int×List Qb×List Int×List Int=>∃ i:Nat,x.1=(i:Int)∧i≤T.length∧x.2.2.2.2.2.2.2.2.2.2.2.2.2.2.2.2.2.2.2=(T.take i).map fun t=>ati t 0) (fun x=>T.length-x.1.toNat) (fun _ r=>∃ v:List Int×List Int×List Qb×List Int×List Int×List Qb×List Int×List Int×List Qb×List Int×List Int×List Int×List Int×List Qb×List Int×List Int×List Qb×List Int×List Int,r=some v∧v.2.2.2.2.2.2.2.2.2.2.2.2.2.2.2.2.2.2=T.map fun t=>ati t 0) (fun k x hx ih=>?_) fuel _ ⟨0,rfl,by omega,rfl⟩ (by dsimp only;omega);obtain ⟨i,hx,hi,hw⟩:=hx;obtain ⟨x,c10,c11,c12,c13,c14,c15,c16,c17,c18,c19,c20,c21,c22,c23,c24,c25,c26,c27,w⟩:=x;dsimp only at hx hw;subst hx hw;dsimp only;by_cases hlt:i<T.length
  ·have ht:=hA.t _ (List.getElem_mem hlt);have hl:=ht.len;have hg:getO T[i] 0=some (ati T[i] 0):=by
    rw [show (0:Int)=((0:Nat):Int) from rfl,Q6 (by rw [hl];simp:0<T[i].length)];simp [ati,at0,List.getD_eq_getElem?_getD,show 0<T[i].length from by rw [hl];simp]
   rw [if_pos (by omega),Q6 hlt,Option.bind_some,hg,Option.bind_some,Qck (by simp only [List.length_map,List.length_take,List.length_cons,List.length_nil];unfold lim;omega),Option.bind_some,Qbi (by omega)];refine ih _ ⟨i+1,rfl,by omega,?_⟩ (by dsimp only;omega);dsimp only;rw [List.take_succ_eq_append_getElem hlt,List.map_append];rfl
  ·rw [if_neg (by omega)];have:i=T.length:=by omega
   subst this;exact ⟨_,rfl,by dsimp only;rw [List.take_length]⟩
 ·rintro ⟨c37,c38,c39,c40,c41,c42,c43,c44,c45,c46,c47,c48,c49,c50,c51,c52,c53,c54,w⟩ hw;dsimp only at hw ⊢;rw [hw];rfl
end
theorem Q9e {s:Qbq} (h:Qbfn s):Qez s=some true:=by
 unfold Qez Qey;obtain ⟨p,hp,hP⟩:=Qbfp h;obtain ⟨A,T,e1,hA,al1⟩:=Qbki hP;obtain ⟨B,U,e2,hB,al2⟩:=Qbkj hP;obtain ⟨m1,_,f1,g1,_⟩:=Q9d hA.r;obtain ⟨m2,_,f2,g2,_⟩:=Q9d hB.r;rw [Qbck,Option.bind_some,if_pos rfl,hp,Option.bind_some,Qbfs hP e1 hA e2,Option.bind_some];dsimp only;rw [Qbcq hP e1 hA.r al1 f1,Option.bind_some];dsimp only;rw [Qbab hP e2 hB.r al2 f2,Option.bind_some];dsimp only;rw [if_pos rfl,if_pos (by rfl),Q4j hA.r f1,Option.bind_some,Qbfe g1.small.1,Option.bind_some,decide_eq_true rfl,if_pos rfl,if_pos (by rfl),Q4j hB.r f2,Option.bind_some,Qbfe g2.small.1,Option.bind_some,decide_eq_true rfl,Option.bind_some]
end Go.Abs
end
section
namespace Go.Proofs
open Go Go.Abs
theorem Qbac {x:Int} (h:wfI .u8 x):0≤x∧x<256:=by
 unfold wfI at h;simp [Lit.wf,IntKind.min,IntKind.max,IntKind.bits,IntKind.signed] at h;omega
theorem Q7a {g:Qs} (h:W_27 g):Q4b g:=by
 unfold W_27 W_25 W_24 W_5 at h;obtain ⟨h1,h2,⟨a1,a2,a3,a4,a5⟩,⟨b1,b2,b3,b4,b5⟩,⟨c1,c2,c3,c4,c5⟩,⟨d1,d2,d3,d4,d5⟩,⟨e1,e2,e3,e4,e5⟩⟩:=h;refine ⟨Qbac h1,fun x hx=>?_⟩;simp only [List.mem_cons,List.not_mem_nil,or_false] at hx;rcases hx with rfl|rfl|rfl|rfl|rfl|rfl|rfl|rfl|rfl|rfl|rfl|rfl|rfl|rfl|rfl|rfl|rfl|rfl|rfl|rfl|rfl|rfl|rfl|rfl|rfl<;>exact Qbac (by assumption)
theorem Qbj8 {s:Qbq} (h:W_30 s):Qbfn s:=by
 obtain ⟨⟨a,b,c,d,e⟩,f,g,i⟩:=h;exact ⟨Qbac a,Qbac b,Qbac c,Qbac d,Qbac e,Q7a f,Q7a g,Q7a i⟩
end Go.Proofs
end
section
namespace Go.Abs
open Go Go.ChangeShapes Go.WideShapes Go.ChangeAt Go.RowKit
theorem Qbft {X:World→Array Value→Prop} (hX:∀ (w w' : World) (args:Array Value),w.heap=w'.heap→X w args→X w' args) {C:Checked} {f:FuncId} {fn:Func} {s:ChangeSpec} {conds:List PathCond} {bt:TypeId} {os:Os} {H:Type} {enc:TypeId×Value→H}
  (own:ownKnob C.prog.godebug=none) (started:os.Started) (noInit:C.prog.inits.idxOf? f=none) (hfn:C.prog.funcs[f]? = some fn)
  (witness:∃ (w:World) (tape:Tape) (i:Input),w.os=os∧(w.forCall tape i).Shaped C.prog∧i.vars=[]∧Input.okWide C.prog (w.forCall tape i) .any w.heap.size f i ∧
   ((s.pre enc C.prog fn conds false (w.forCall tape i).memory i.args∧X (w.forCall tape i).memory i.args)∧sizedMet enc C.prog fn (OpenSpec.ofChange s) false (w.forCall tape i).memory i.args)∧({}:Assume).holds C.prog (lone (Frame.enter C.prog f i.args .normal) [] (w.forCall tape i)))
  (hvars:s.vars=[]) (hres:fn.resultTypes = #[bt]) (hbt:C.prog.underlying bt=some .bool)
  (hl:laidOutB C.prog=true) (hread:∀ t∈fn.params.toList,C.prog.readableRec t=true∧t<C.prog.types.size)
  (hspec:∀ ds:List (DataW H),ds.length=fn.params.size→s.fn H ds={ results:=[.lit (.bool true)],args:=ds })
  (law:Qbj5 C.prog f fn.params.toList) :
  ReturnsInHanded {} C os f .any (fun w args=>(s.pre enc C.prog fn conds false w args∧X w args)∧sizedMet enc C.prog fn (OpenSpec.ofChange s) false w args) (s.post enc C.prog fn false true false false):=by
 refine returnsInHanded_of_change_and hX own started noInit hfn witness ?_;intro W base args ds gs before hval hW hcnd _ _ _;have hW':=hW;obtain ⟨p,q,hA,hV,hps,hfz,hnd⟩:=hW;rw [hvars] at hV;obtain ⟨rfl,rfl⟩ : gs=[]∧q=[]:=by
  cases gs with
  | nil=>exact ⟨rfl,hV⟩
  | cons _ _=>exact hV.elim
 obtain ⟨vs,h1,h2,h3,h4⟩:=law (fun j t u ht hu=>hval j t u (by simpa using ht) (by simpa using hu)) hA;obtain ⟨hb,_,h5⟩:=h4 (fun _=>none) 0;have hlv:∀ b o,live W b o→b<W.heap.size:=by
  intro b o h;simp only [live] at h;obtain ⟨v,hv⟩:=Option.isSome_iff_exists.1 h;unfold World.cell? at hv;split at hv
  ·rename_i hh;exact (Array.getElem?_eq_some_iff.1 hh).1
  ·cases hv
 have hmr:MR ⟨fun _=>0,live W,fun _=>.ext⟩ W (fun _=>none) 0:=⟨fun k b h=>(by cases h),fun b o h=>⟨hlv b o h,fun k h=>by cases h⟩⟩;have h6:=h5 W ⟨fun _=>0,live W,fun _=>.ext⟩ args.toList hmr (fun k cs h=>by cases h) (RAs.of_flat h1) (ons_mono (fun k hk=>absurd hk (Nat.not_lt_zero k)) _ (ons_lt vs h3));refine Calls.mono h6 fun e W' ⟨v,g',he,_,hr,_,_,hf⟩=>?_;subst he;have hv:v = .bool true:=by simpa [RV,RD] using hr
 subst hv;have hbelow:Below W.heap.size W W':=⟨hf.os,hf.tape,hf.output,hf.size,fun k hk=>(hf.old k hk trivial).2.1⟩;have hrl:(Value.bool true).resultList fn.resultTypes.size=[.bool true]:=by rw [hres];rfl
 have hsp:s.fn H (ds++[])={ results:=[.lit (.bool true)],args:=ds }:=by
  rw [List.append_nil];exact hspec ds (by have:=(Q37 hA).1;simpa using this)
 have hlt:∀ p∈before,p.block<W.heap.size:=fun x hx=>hW'.lt x hx;have hst:∀ sp:Nat→Bool,(∀ p∈before,sp p.block=true)→DataW.TrodAll enc C.prog W' 0 sp true fn.params.toList args.toList ds before:=by
  intro sp hsp';have e:p=before:=by rw [hps,List.append_nil]
  subst e;exact Qz4 hl hread hA (fun x hx=>hbelow.same (hlt x hx)) hsp'
 refine ⟨_,rfl,ds,[],before,[],before,[],hW',?_,?_,?_,World.keptBut_mono (fun p hp=>⟨hp,.inr (.inl hp)⟩) (hbelow.frame (· ∈ before)),fun h=>by cases h⟩
 ·rw [hsp,hrl,hres];exact ⟨[],[],⟨1,by simp [DataW.trod,Value.cells,hbt]⟩,rfl,rfl⟩
 ·rw [hsp];exact hst _ fun p hp=>by simpa using hlt p hp
 ·rw [hsp,hvars];rfl
end Go.Abs
end
