import Derived.Test.YtghfannbcopjmaaGreatFRun
namespace Go.Proofs.YtghfannbcopjmaaGreat
open Go Go.RowKit
set_option linter.unusedVariables false
set_option linter.unusedSimpArgs false
set_option maxRecDepth 100000
def rpow8_v0 (n : Int) : Bool := bif decide (n = 1) then true else (bif decide (n = 2) then true else (bif decide (n = 4) then true else (bif decide (n = 8) then true else false)))
theorem rpow8 (n : Int)  : Sp P 123 [vi n, vn 8] [] (vt (rpow8_v0 n)) [] := by
 generalize hd0 : rpow8_v0 n = zzhd0
 unfold rpow8_v0 at hd0
 rcases bft (decide (n = 1)) with q1 | q1
 ·skip
  try rw [cpos q1] at hd0
  have q1' := of_decide_eq_true q1
  subst hd0
  exact Sp.of (fn := Tryz.f123) rfl rfl 3 [] (.lu 0 (.y (.t q1 .nil))) (by kernel_rfl) (by kernel_rfl)
 ·skip
  try rw [cneg q1] at hd0
  have q1' := of_decide_eq_false q1
  rcases bft (decide (n = 2)) with q2 | q2
  ·skip
   try rw [cpos q2] at hd0
   have q2' := of_decide_eq_true q2
   subst hd0
   exact Sp.of (fn := Tryz.f123) rfl rfl 3 [] (.lu 1 (.y (.t q1 (.y (.t q2 .nil))))) (by kernel_rfl) (by kernel_rfl)
  ·skip
   try rw [cneg q2] at hd0
   have q2' := of_decide_eq_false q2
   rcases bft (decide (n = 4)) with q3 | q3
   ·skip
    try rw [cpos q3] at hd0
    have q3' := of_decide_eq_true q3
    subst hd0
    exact Sp.of (fn := Tryz.f123) rfl rfl 3 [] (.lu 2 (.y (.t q1 (.y (.t q2 (.y (.t q3 .nil))))))) (by kernel_rfl) (by kernel_rfl)
   ·skip
    try rw [cneg q3] at hd0
    have q3' := of_decide_eq_false q3
    rcases bft (decide (n = 8)) with q4 | q4
    ·skip
     try rw [cpos q4] at hd0
     have q4' := of_decide_eq_true q4
     subst hd0
     exact Sp.of (fn := Tryz.f123) rfl rfl 3 [] (.lu 3 (.y (.t q1 (.y (.t q2 (.y (.t q3 (.y (.t q4 .nil))))))))) (by kernel_rfl) (by kernel_rfl)
    ·skip
     try rw [cneg q4] at hd0
     have q4' := of_decide_eq_false q4
     subst hd0
     exact Sp.of (fn := Tryz.f123) rfl rfl 3 [] (.lu 4 (.y (.t q1 (.y (.t q2 (.y (.t q3 (.y (.t q4 (.n .nil)))))))))) (by kernel_rfl) (by kernel_rfl)
def rpow16_v0 (n : Int) : Bool := bif decide (n = 1) then true else (bif decide (n = 2) then true else (bif decide (n = 4) then true else (bif decide (n = 8) then true else (bif decide (n = 16) then true else false))))
theorem rpow16 (n : Int)  : Sp P 123 [vi n, vn 16] [] (vt (rpow16_v0 n)) [] := by
 generalize hd0 : rpow16_v0 n = zzhd0
 unfold rpow16_v0 at hd0
 rcases bft (decide (n = 1)) with q1 | q1
 ·skip
  try rw [cpos q1] at hd0
  have q1' := of_decide_eq_true q1
  subst hd0
  exact Sp.of (fn := Tryz.f123) rfl rfl 3 [] (.lu 0 (.y (.t q1 .nil))) (by kernel_rfl) (by kernel_rfl)
 ·skip
  try rw [cneg q1] at hd0
  have q1' := of_decide_eq_false q1
  rcases bft (decide (n = 2)) with q2 | q2
  ·skip
   try rw [cpos q2] at hd0
   have q2' := of_decide_eq_true q2
   subst hd0
   exact Sp.of (fn := Tryz.f123) rfl rfl 3 [] (.lu 1 (.y (.t q1 (.y (.t q2 .nil))))) (by kernel_rfl) (by kernel_rfl)
  ·skip
   try rw [cneg q2] at hd0
   have q2' := of_decide_eq_false q2
   rcases bft (decide (n = 4)) with q3 | q3
   ·skip
    try rw [cpos q3] at hd0
    have q3' := of_decide_eq_true q3
    subst hd0
    exact Sp.of (fn := Tryz.f123) rfl rfl 3 [] (.lu 2 (.y (.t q1 (.y (.t q2 (.y (.t q3 .nil))))))) (by kernel_rfl) (by kernel_rfl)
   ·skip
    try rw [cneg q3] at hd0
    have q3' := of_decide_eq_false q3
    rcases bft (decide (n = 8)) with q4 | q4
    ·skip
     try rw [cpos q4] at hd0
     have q4' := of_decide_eq_true q4
     subst hd0
     exact Sp.of (fn := Tryz.f123) rfl rfl 3 [] (.lu 3 (.y (.t q1 (.y (.t q2 (.y (.t q3 (.y (.t q4 .nil))))))))) (by kernel_rfl) (by kernel_rfl)
    ·skip
     try rw [cneg q4] at hd0
     have q4' := of_decide_eq_false q4
     rcases bft (decide (n = 16)) with q5 | q5
     ·skip
      try rw [cpos q5] at hd0
      have q5' := of_decide_eq_true q5
      subst hd0
      exact Sp.of (fn := Tryz.f123) rfl rfl 3 [] (.lu 4 (.y (.t q1 (.y (.t q2 (.y (.t q3 (.y (.t q4 (.y (.t q5 .nil))))))))))) (by kernel_rfl) (by kernel_rfl)
     ·skip
      try rw [cneg q5] at hd0
      have q5' := of_decide_eq_false q5
      subst hd0
      exact Sp.of (fn := Tryz.f123) rfl rfl 3 [] (.lu 5 (.y (.t q1 (.y (.t q2 (.y (.t q3 (.y (.t q4 (.y (.t q5 (.n .nil)))))))))))) (by kernel_rfl) (by kernel_rfl)
def rpow1024_v0 (n : Int) : Bool := bif decide (n = 1) then true else (bif decide (n = 2) then true else (bif decide (n = 4) then true else (bif decide (n = 8) then true else (bif decide (n = 16) then true else (bif decide (n = 32) then true else (bif decide (n = 64) then true else (bif decide (n = 128) then true else (bif decide (n = 256) then true else (bif decide (n = 512) then true else (bif decide (n = 1024) then true else false))))))))))
theorem rpow1024 (n : Int)  : Sp P 123 [vi n, vn 1024] [] (vt (rpow1024_v0 n)) [] := by
 generalize hd0 : rpow1024_v0 n = zzhd0
 unfold rpow1024_v0 at hd0
 rcases bft (decide (n = 1)) with q1 | q1
 ·skip
  try rw [cpos q1] at hd0
  have q1' := of_decide_eq_true q1
  subst hd0
  exact Sp.of (fn := Tryz.f123) rfl rfl 3 [] (.lu 0 (.y (.t q1 .nil))) (by kernel_rfl) (by kernel_rfl)
 ·skip
  try rw [cneg q1] at hd0
  have q1' := of_decide_eq_false q1
  rcases bft (decide (n = 2)) with q2 | q2
  ·skip
   try rw [cpos q2] at hd0
   have q2' := of_decide_eq_true q2
   subst hd0
   exact Sp.of (fn := Tryz.f123) rfl rfl 3 [] (.lu 1 (.y (.t q1 (.y (.t q2 .nil))))) (by kernel_rfl) (by kernel_rfl)
  ·skip
   try rw [cneg q2] at hd0
   have q2' := of_decide_eq_false q2
   rcases bft (decide (n = 4)) with q3 | q3
   ·skip
    try rw [cpos q3] at hd0
    have q3' := of_decide_eq_true q3
    subst hd0
    exact Sp.of (fn := Tryz.f123) rfl rfl 3 [] (.lu 2 (.y (.t q1 (.y (.t q2 (.y (.t q3 .nil))))))) (by kernel_rfl) (by kernel_rfl)
   ·skip
    try rw [cneg q3] at hd0
    have q3' := of_decide_eq_false q3
    rcases bft (decide (n = 8)) with q4 | q4
    ·skip
     try rw [cpos q4] at hd0
     have q4' := of_decide_eq_true q4
     subst hd0
     exact Sp.of (fn := Tryz.f123) rfl rfl 3 [] (.lu 3 (.y (.t q1 (.y (.t q2 (.y (.t q3 (.y (.t q4 .nil))))))))) (by kernel_rfl) (by kernel_rfl)
    ·skip
     try rw [cneg q4] at hd0
     have q4' := of_decide_eq_false q4
     rcases bft (decide (n = 16)) with q5 | q5
     ·skip
      try rw [cpos q5] at hd0
      have q5' := of_decide_eq_true q5
      subst hd0
      exact Sp.of (fn := Tryz.f123) rfl rfl 3 [] (.lu 4 (.y (.t q1 (.y (.t q2 (.y (.t q3 (.y (.t q4 (.y (.t q5 .nil))))))))))) (by kernel_rfl) (by kernel_rfl)
     ·skip
      try rw [cneg q5] at hd0
      have q5' := of_decide_eq_false q5
      rcases bft (decide (n = 32)) with q6 | q6
      ·skip
       try rw [cpos q6] at hd0
       have q6' := of_decide_eq_true q6
       subst hd0
       exact Sp.of (fn := Tryz.f123) rfl rfl 3 [] (.lu 5 (.y (.t q1 (.y (.t q2 (.y (.t q3 (.y (.t q4 (.y (.t q5 (.y (.t q6 .nil))))))))))))) (by kernel_rfl) (by kernel_rfl)
      ·skip
       try rw [cneg q6] at hd0
       have q6' := of_decide_eq_false q6
       rcases bft (decide (n = 64)) with q7 | q7
       ·skip
        try rw [cpos q7] at hd0
        have q7' := of_decide_eq_true q7
        subst hd0
        exact Sp.of (fn := Tryz.f123) rfl rfl 3 [] (.lu 6 (.y (.t q1 (.y (.t q2 (.y (.t q3 (.y (.t q4 (.y (.t q5 (.y (.t q6 (.y (.t q7 .nil))))))))))))))) (by kernel_rfl) (by kernel_rfl)
       ·skip
        try rw [cneg q7] at hd0
        have q7' := of_decide_eq_false q7
        rcases bft (decide (n = 128)) with q8 | q8
        ·skip
         try rw [cpos q8] at hd0
         have q8' := of_decide_eq_true q8
         subst hd0
         exact Sp.of (fn := Tryz.f123) rfl rfl 3 [] (.lu 7 (.y (.t q1 (.y (.t q2 (.y (.t q3 (.y (.t q4 (.y (.t q5 (.y (.t q6 (.y (.t q7 (.y (.t q8 .nil))))))))))))))))) (by kernel_rfl) (by kernel_rfl)
        ·skip
         try rw [cneg q8] at hd0
         have q8' := of_decide_eq_false q8
         rcases bft (decide (n = 256)) with q9 | q9
         ·skip
          try rw [cpos q9] at hd0
          have q9' := of_decide_eq_true q9
          subst hd0
          exact Sp.of (fn := Tryz.f123) rfl rfl 3 [] (.lu 8 (.y (.t q1 (.y (.t q2 (.y (.t q3 (.y (.t q4 (.y (.t q5 (.y (.t q6 (.y (.t q7 (.y (.t q8 (.y (.t q9 .nil))))))))))))))))))) (by kernel_rfl) (by kernel_rfl)
         ·skip
          try rw [cneg q9] at hd0
          have q9' := of_decide_eq_false q9
          rcases bft (decide (n = 512)) with q10 | q10
          ·skip
           try rw [cpos q10] at hd0
           have q10' := of_decide_eq_true q10
           subst hd0
           exact Sp.of (fn := Tryz.f123) rfl rfl 3 [] (.lu 9 (.y (.t q1 (.y (.t q2 (.y (.t q3 (.y (.t q4 (.y (.t q5 (.y (.t q6 (.y (.t q7 (.y (.t q8 (.y (.t q9 (.y (.t q10 .nil))))))))))))))))))))) (by kernel_rfl) (by kernel_rfl)
          ·skip
           try rw [cneg q10] at hd0
           have q10' := of_decide_eq_false q10
           rcases bft (decide (n = 1024)) with q11 | q11
           ·skip
            try rw [cpos q11] at hd0
            have q11' := of_decide_eq_true q11
            subst hd0
            exact Sp.of (fn := Tryz.f123) rfl rfl 3 [] (.lu 10 (.y (.t q1 (.y (.t q2 (.y (.t q3 (.y (.t q4 (.y (.t q5 (.y (.t q6 (.y (.t q7 (.y (.t q8 (.y (.t q9 (.y (.t q10 (.y (.t q11 .nil))))))))))))))))))))))) (by kernel_rfl) (by kernel_rfl)
           ·skip
            try rw [cneg q11] at hd0
            have q11' := of_decide_eq_false q11
            subst hd0
            exact Sp.of (fn := Tryz.f123) rfl rfl 3 [] (.lu 11 (.y (.t q1 (.y (.t q2 (.y (.t q3 (.y (.t q4 (.y (.t q5 (.y (.t q6 (.y (.t q7 (.y (.t q8 (.y (.t q9 (.y (.t q10 (.y (.t q11 (.n .nil)))))))))))))))))))))))) (by kernel_rfl) (by kernel_rfl)
def rpow64_v0 (n : Int) : Bool := bif decide (n = 1) then true else (bif decide (n = 2) then true else (bif decide (n = 4) then true else (bif decide (n = 8) then true else (bif decide (n = 16) then true else (bif decide (n = 32) then true else (bif decide (n = 64) then true else false))))))
theorem rpow64 (n : Int)  : Sp P 123 [vi n, vn 64] [] (vt (rpow64_v0 n)) [] := by
 generalize hd0 : rpow64_v0 n = zzhd0
 unfold rpow64_v0 at hd0
 rcases bft (decide (n = 1)) with q1 | q1
 ·skip
  try rw [cpos q1] at hd0
  have q1' := of_decide_eq_true q1
  subst hd0
  exact Sp.of (fn := Tryz.f123) rfl rfl 3 [] (.lu 0 (.y (.t q1 .nil))) (by kernel_rfl) (by kernel_rfl)
 ·skip
  try rw [cneg q1] at hd0
  have q1' := of_decide_eq_false q1
  rcases bft (decide (n = 2)) with q2 | q2
  ·skip
   try rw [cpos q2] at hd0
   have q2' := of_decide_eq_true q2
   subst hd0
   exact Sp.of (fn := Tryz.f123) rfl rfl 3 [] (.lu 1 (.y (.t q1 (.y (.t q2 .nil))))) (by kernel_rfl) (by kernel_rfl)
  ·skip
   try rw [cneg q2] at hd0
   have q2' := of_decide_eq_false q2
   rcases bft (decide (n = 4)) with q3 | q3
   ·skip
    try rw [cpos q3] at hd0
    have q3' := of_decide_eq_true q3
    subst hd0
    exact Sp.of (fn := Tryz.f123) rfl rfl 3 [] (.lu 2 (.y (.t q1 (.y (.t q2 (.y (.t q3 .nil))))))) (by kernel_rfl) (by kernel_rfl)
   ·skip
    try rw [cneg q3] at hd0
    have q3' := of_decide_eq_false q3
    rcases bft (decide (n = 8)) with q4 | q4
    ·skip
     try rw [cpos q4] at hd0
     have q4' := of_decide_eq_true q4
     subst hd0
     exact Sp.of (fn := Tryz.f123) rfl rfl 3 [] (.lu 3 (.y (.t q1 (.y (.t q2 (.y (.t q3 (.y (.t q4 .nil))))))))) (by kernel_rfl) (by kernel_rfl)
    ·skip
     try rw [cneg q4] at hd0
     have q4' := of_decide_eq_false q4
     rcases bft (decide (n = 16)) with q5 | q5
     ·skip
      try rw [cpos q5] at hd0
      have q5' := of_decide_eq_true q5
      subst hd0
      exact Sp.of (fn := Tryz.f123) rfl rfl 3 [] (.lu 4 (.y (.t q1 (.y (.t q2 (.y (.t q3 (.y (.t q4 (.y (.t q5 .nil))))))))))) (by kernel_rfl) (by kernel_rfl)
     ·skip
      try rw [cneg q5] at hd0
      have q5' := of_decide_eq_false q5
      rcases bft (decide (n = 32)) with q6 | q6
      ·skip
       try rw [cpos q6] at hd0
       have q6' := of_decide_eq_true q6
       subst hd0
       exact Sp.of (fn := Tryz.f123) rfl rfl 3 [] (.lu 5 (.y (.t q1 (.y (.t q2 (.y (.t q3 (.y (.t q4 (.y (.t q5 (.y (.t q6 .nil))))))))))))) (by kernel_rfl) (by kernel_rfl)
      ·skip
       try rw [cneg q6] at hd0
       have q6' := of_decide_eq_false q6
       rcases bft (decide (n = 64)) with q7 | q7
       ·skip
        try rw [cpos q7] at hd0
        have q7' := of_decide_eq_true q7
        subst hd0
        exact Sp.of (fn := Tryz.f123) rfl rfl 3 [] (.lu 6 (.y (.t q1 (.y (.t q2 (.y (.t q3 (.y (.t q4 (.y (.t q5 (.y (.t q6 (.y (.t q7 .nil))))))))))))))) (by kernel_rfl) (by kernel_rfl)
       ·skip
        try rw [cneg q7] at hd0
        have q7' := of_decide_eq_false q7
        subst hd0
        exact Sp.of (fn := Tryz.f123) rfl rfl 3 [] (.lu 7 (.y (.t q1 (.y (.t q2 (.y (.t q3 (.y (.t q4 (.y (.t q5 (.y (.t q6 (.y (.t q7 (.n .nil)))))))))))))))) (by kernel_rfl) (by kernel_rfl)
def refG_v0 (g : Gm) : Bool := bif (rpow8_v0 g.ranks) then (bif (rpow16_v0 g.banks) then (bif (rpow1024_v0 g.rows) then (bif (rpow64_v0 g.cols) then (bif decide (g.spares < 0) then false else (bif decide (IntKind.i64.wrap (8 - g.ranks) < g.spares) then false else (decide (IntKind.i64.wrap ((IntKind.i64.wrap ((IntKind.i64.wrap ((IntKind.i64.wrap (g.ranks + g.spares)) * g.banks)) * g.rows)) * g.cols) ≤ 4096)))) else false) else false) else false) else false
theorem refG (g : Gm)  : Sp P 83 [.ag [vi g.ranks, vi g.spares, vi g.banks, vi g.rows, vi g.cols]] [] (vt (refG_v0 g)) [] := by
 generalize hd0 : refG_v0 g = zzhd0
 unfold refG_v0 at hd0
 rcases bft (rpow8_v0 g.ranks) with q1 | q1
 ·skip
  try rw [cpos q1] at hd0
  rcases bft (rpow16_v0 g.banks) with q2 | q2
  ·skip
   try rw [cpos q2] at hd0
   rcases bft (rpow1024_v0 g.rows) with q3 | q3
   ·skip
    try rw [cpos q3] at hd0
    rcases bft (rpow64_v0 g.cols) with q4 | q4
    ·skip
     try rw [cpos q4] at hd0
     rcases bft (decide (g.spares < 0)) with q5 | q5
     ·skip
      try rw [cpos q5] at hd0
      have q5' := of_decide_eq_true q5
      subst hd0
      exact Sp.of (fn := Tryz.f83) rfl rfl 3 [] (.c [] (rpow8 g.ranks) (.g q1 (.g q1 (.g q1 (.c [] (rpow16 g.banks) (.g q1 (.g q1 (.g q2 (.g q2 (.g q2 (.c [] (rpow1024 g.rows) (.g q2 (.g q2 (.g q3 (.g q3 (.g q3 (.c [] (rpow64 g.cols) (.g q3 (.g q3 (.g q4 (.g q4 (.g q4 (.g q4 (.t q5 (.t q5 (.t q5 (.t q5 (.t q5 (.t q5 (.t q5 (.y .nil))))))))))))))))))))))))))))))) (by kernel_rfl) (by kernel_rfl)
     ·skip
      try rw [cneg q5] at hd0
      have q5' := of_decide_eq_false q5
      rcases bft (decide (IntKind.i64.wrap (8 - g.ranks) < g.spares)) with q6 | q6
      ·skip
       try rw [cpos q6] at hd0
       have q6' := of_decide_eq_true q6
       subst hd0
       exact Sp.of (fn := Tryz.f83) rfl rfl 3 [] (.c [] (rpow8 g.ranks) (.g q1 (.g q1 (.g q1 (.c [] (rpow16 g.banks) (.g q1 (.g q1 (.g q2 (.g q2 (.g q2 (.c [] (rpow1024 g.rows) (.g q2 (.g q2 (.g q3 (.g q3 (.g q3 (.c [] (rpow64 g.cols) (.g q3 (.g q3 (.g q4 (.g q4 (.g q4 (.g q4 (.t q5 (.t q5 (.t q5 (.t q5 (.t q5 (.t q5 (.t q5 (.t q6 .nil))))))))))))))))))))))))))))))) (by kernel_rfl) (by kernel_rfl)
      ·skip
       try rw [cneg q6] at hd0
       have q6' := of_decide_eq_false q6
       subst hd0
       exact Sp.of (fn := Tryz.f83) rfl rfl 3 [] (.c [] (rpow8 g.ranks) (.g q1 (.g q1 (.g q1 (.c [] (rpow16 g.banks) (.g q1 (.g q1 (.g q2 (.g q2 (.g q2 (.c [] (rpow1024 g.rows) (.g q2 (.g q2 (.g q3 (.g q3 (.g q3 (.c [] (rpow64 g.cols) (.g q3 (.g q3 (.g q4 (.g q4 (.g q4 (.g q4 (.t q5 (.t q5 (.t q5 (.t q5 (.t q5 (.t q5 (.t q5 (.t q6 .nil))))))))))))))))))))))))))))))) (by kernel_rfl) (by kernel_rfl)
    ·skip
     try rw [cneg q4] at hd0
     subst hd0
     exact Sp.of (fn := Tryz.f83) rfl rfl 3 [] (.c [] (rpow8 g.ranks) (.g q1 (.g q1 (.g q1 (.c [] (rpow16 g.banks) (.g q1 (.g q1 (.g q2 (.g q2 (.g q2 (.c [] (rpow1024 g.rows) (.g q2 (.g q2 (.g q3 (.g q3 (.g q3 (.c [] (rpow64 g.cols) (.g q3 (.g q3 (.g q4 (.g q4 (.g q4 (.g q4 (.y (.y (.y (.y (.y (.y (.y (.y .nil))))))))))))))))))))))))))))))) (by kernel_rfl) (by kernel_rfl)
   ·skip
    try rw [cneg q3] at hd0
    subst hd0
    exact Sp.of (fn := Tryz.f83) rfl rfl 3 [] (.c [] (rpow8 g.ranks) (.g q1 (.g q1 (.g q1 (.c [] (rpow16 g.banks) (.g q1 (.g q1 (.g q2 (.g q2 (.g q2 (.c [] (rpow1024 g.rows) (.g q2 (.g q2 (.g q3 (.g q3 (.g q3 (.g q3 (.g q3 (.y (.y (.y (.y (.y (.y (.y (.y (.y (.y (.y (.y .nil)))))))))))))))))))))))))))))) (by kernel_rfl) (by kernel_rfl)
  ·skip
   try rw [cneg q2] at hd0
   subst hd0
   exact Sp.of (fn := Tryz.f83) rfl rfl 3 [] (.c [] (rpow8 g.ranks) (.g q1 (.g q1 (.g q1 (.c [] (rpow16 g.banks) (.g q1 (.g q1 (.g q2 (.g q2 (.g q2 (.g q2 (.g q2 (.y (.y (.y (.y (.y (.y (.y (.y (.y (.y (.y (.y (.y (.y (.y (.y (.y .nil))))))))))))))))))))))))))))) (by kernel_rfl) (by kernel_rfl)
 ·skip
  try rw [cneg q1] at hd0
  subst hd0
  exact Sp.of (fn := Tryz.f83) rfl rfl 3 [] (.c [] (rpow8 g.ranks) (.g q1 (.g q1 (.g q1 (.g q1 (.g q1 (.y (.y (.y (.y (.y (.y (.y (.y (.y (.y (.y (.y (.y (.y (.y (.y (.y (.y (.y (.y (.y (.y .nil)))))))))))))))))))))))))))) (by kernel_rfl) (by kernel_rfl)
def small24_v0 (c : Cfg) : Bool := bif (refG_v0 c.ly.g) then (decide (IntKind.i64.wrap ((IntKind.i64.wrap ((IntKind.i64.wrap ((IntKind.i64.wrap (c.ly.g.ranks + c.ly.g.spares)) * c.ly.g.banks)) * c.ly.g.rows)) * c.ly.g.cols) ≤ 100)) else true
theorem small24 (c : Cfg)  : Sp P 62 [.ag [vi c.ly.g.ranks, vi c.ly.g.spares, vi c.ly.g.banks, vi c.ly.g.rows, vi c.ly.g.cols, vi c.ly.way, vi c.ly.res, vi c.mode, vi c.rules.rank.limit, vi c.rules.rank.every, vi c.rules.page.limit, vi c.rules.page.every, vi c.rules.room, vi c.rules.heavy, vi c.log, vt c.back]] [] (vt (small24_v0 c)) [] := by
 generalize hd0 : small24_v0 c = zzhd0
 unfold small24_v0 at hd0
 rcases bft (refG_v0 c.ly.g) with q1 | q1
 ·skip
  try rw [cpos q1] at hd0
  subst hd0
  exact Sp.of (fn := Tryz.f62) rfl rfl 4 [] (.c [] (refG c.ly.g) (.g q1 (.g q1 (.g q1 (.g q1 (.g q1 (.g q1 (.g q1 (.g q1 (.g q1 (.g q1 (.g q1 (.g q1 (.g q1 (.g q1 (.g q1 (.g q1 .nil))))))))))))))))) (by kernel_rfl) (by kernel_rfl)
 ·skip
  try rw [cneg q1] at hd0
  subst hd0
  exact Sp.of (fn := Tryz.f62) rfl rfl 4 [] (.c [] (refG c.ly.g) (.g q1 (.g q1 (.g q1 (.g q1 (.g q1 (.g q1 (.g q1 (.g q1 (.g q1 (.g q1 (.g q1 (.g q1 (.g q1 (.g q1 (.g q1 (.g q1 .nil))))))))))))))))) (by kernel_rfl) (by kernel_rfl)
def right24_v0 (c : Cfg) : Bool := bif (cfgRight_v0 c) then (small24_v0 c) else false
theorem right24 (c : Cfg)  : Sp P 22 [.ag [vi c.ly.g.ranks, vi c.ly.g.spares, vi c.ly.g.banks, vi c.ly.g.rows, vi c.ly.g.cols, vi c.ly.way, vi c.ly.res, vi c.mode, vi c.rules.rank.limit, vi c.rules.rank.every, vi c.rules.page.limit, vi c.rules.page.every, vi c.rules.room, vi c.rules.heavy, vi c.log, vt c.back]] [] (vt (right24_v0 c)) [] := by
 generalize hd0 : right24_v0 c = zzhd0
 unfold right24_v0 at hd0
 rcases bft (cfgRight_v0 c) with q1 | q1
 ·skip
  try rw [cpos q1] at hd0
  subst hd0
  exact Sp.of (fn := Tryz.f22) rfl rfl 3 [] (.c [] (cfgRight c) (.t q1 (.t q1 (.c [] (small24 c) (.t q1 .nil))))) (by kernel_rfl) (by kernel_rfl)
 ·skip
  try rw [cneg q1] at hd0
  subst hd0
  exact Sp.of (fn := Tryz.f22) rfl rfl 3 [] (.c [] (cfgRight c) (.t q1 (.t q1 (.t q1 .nil)))) (by kernel_rfl) (by kernel_rfl)
theorem right24_t {c : Cfg} (h : right24_v0 c = true) : cfgRight_v0 c = true := by
 unfold right24_v0 at h
 revert h; cases cfgRight_v0 c <;> simp
def fillA (v : Nat) : Nat → Nat → Int
 | 0 => fun _ => 0
 | i + 1 => upI (fillA v i) i ((v : Nat) : Int)
theorem fillA_eq (v : Nat) : ∀ i j, fillA v i j = if j < i then ((v : Nat) : Int) else 0
 | 0, j => rfl
 | i + 1, j => by
  show upI (fillA v i) i _ j = _
  unfold upI
  rw [fillA_eq v i j]
  split
  ·rename_i e; rw [if_pos (by omega)]
  ·rename_i e
   by_cases hj : j < i
   ·rw [if_pos hj, if_pos (by omega)]
   ·rw [if_neg hj, if_neg (by omega)]
theorem fill_raw (v : Nat)  : Sp P 47 [vb v] [] (.ar .u8 64 (fillA v 64)) [] :=
 Sp.of (fn := Tryz.f47) rfl rfl 4 [] (.lp 64 3 [] [] (fun i => [(5, vn i)]) (fun i => [(2, .blk [.ar .u8 64 (fillA v i)] 37)]) (fun i hi => (.t (show (decide (((i : Nat) : Int) < 64)) = true from decide_eq_true (by omega)) (.ix (i := i) (m := 64) (by omega) (.lt (i := i) (n := 64) (by omega) (.e 11 (aAdd (a := ((i : Nat) : Int)) (b := 1) (c := ((i + 1 : Nat) : Int)) (by omega)) .nil))))) (.n .nil)) (by kernel_rfl) (by kernel_rfl)
theorem fill (v : Nat) : Sp P 47 [vb v] [] (.ar .u8 64 (nf (fun _ => v))) [] := (fill_raw v).resE (ar_den fun j hj => by rw [fillA_eq, if_pos hj]; rfl) rfl rfl rfl
theorem built24 (c : Cfg) (hcf : cfgRight_v0 c = true) : Sp P 23 [.ag [vi c.ly.g.ranks, vi c.ly.g.spares, vi c.ly.g.banks, vi c.ly.g.rows, vi c.ly.g.cols, vi c.ly.way, vi c.ly.res, vi c.mode, vi c.rules.rank.limit, vi c.rules.rank.every, vi c.rules.page.limit, vi c.rules.page.every, vi c.rules.room, vi c.rules.heavy, vi c.log, vt c.back]] [] (.pt 0 0) ([.blk [.pt 16 0, .pt 1 0, .mp 30, .sl 31, .sl 32, vi (mNewM_s c).scrubs, vi (mNewM_s c).steps] 108] ++ bCtl (mNewM_s c).c 1 ++ bCode 25 ++ [.mp (.ar .u8 64 (nf (fun _ => 0))) (mpC (mNewM_s c).ideal), .row eInj (mNewM_s c).inj, .row eSrv (mNewM_s c).srv]) :=
 Sp.of (fn := Tryz.f23) rfl rfl 36 [.id 2, .id 3, .id 4, .id 5, .id 6, .id 7, .id 8, .id 9, .id 10, .id 11, .id 12, .id 13, .id 14, .id 15, .id 16, .id 17, .id 18, .id 19, .id 20, .id 21, .id 22, .id 23, .id 24, .id 25, .id 26, .id 27, .id 28, .id 29, .id 30, .id 31, .id 32, .id 33, .id 34] (.c [] (mNewM c (by first | assumption | omega)) (.n .nil)) (by kernel_rfl) (by kernel_rfl)
theorem mNewM_ok {c : Cfg} (h : cfgRight_v0 c = true) : MchOk 8388608 (mNewM_s c) := by
 have hc := cfg_t h
 have hg := Gm.rt (ly_rt hc.1).1
 have hn : CtlOk 8388608 (ctlN c) := (nwR_ok (ctl0_ok h) (by show c.ly.g.cols.toNat ≤ 64; omega) (by show c.ly.g.rows.toNat ≤ 1024; omega) (by show c.ly.g.banks.toNat ≤ 16; omega) (cRk c)).mono (by unfold cRk; omega)
 refine ⟨hn, fun _ _ => (by decide : (0 : Nat) < 256), Nat.zero_le _, Nat.zero_le _, ?_⟩
 show lyRight_v0 (ctlN c).le.c.ly = true
 have h1 : ∀ s r b w k, (nwC s r b w k).le.c = s.le.c := fun s r b w k => by induction k with | zero => rfl | succ k ih => exact (cput_c _ _ _ _).trans ih
 have h2 : ∀ s r b C w, (nwW s r b C w).le.c = s.le.c := fun s r b C w => by induction w with | zero => rfl | succ w ih => exact (h1 _ _ _ _ _).trans ih
 have h3 : ∀ s r W C b, (nwB s r W C b).le.c = s.le.c := fun s r W C b => by induction b with | zero => rfl | succ b ih => exact (h2 _ _ _ _ _).trans ih
 have h4 : ∀ s B W C r, (nwR s B W C r).le.c = s.le.c := fun s B W C r => by induction r with | zero => rfl | succ r ih => exact (h3 _ _ _ _ _).trans ih
 rw [show (ctlN c).le.c = (ctl0 c).le.c from h4 _ _ _ _ _]
 exact hc.1
theorem stp3 {f : Flt} : ∀ x ∈ ([⟨2, 1, fun _ => 3, 0, f⟩, ⟨1, 1, fun _ => 0, 0, f⟩, ⟨1, 2, fun _ => 0, 0, f⟩] : List Stp), StpOk x := by
 intro x hx
 simp only [List.mem_cons, List.not_mem_nil, or_false] at hx
 rcases hx with rfl | rfl | rfl <;> exact ⟨fun j => by first | exact (by decide : (3 : Nat) < 256) | exact (by decide : (0 : Nat) < 256), (by decide : (0 : Nat) < 18446744073709551616)⟩
def cfg24 : Cfg := (⟨(⟨(⟨1, 0, 1, 1, 2⟩ : Gm), 0, 0⟩ : Ly), 2, (⟨(⟨2, 2⟩ : Rl), (⟨2, 2⟩ : Rl), 1, 1⟩ : Rls), 1, false⟩ : Cfg)
def stp24 : List Stp := [(⟨2, 1, fun _ => 3, 0, (⟨0, 0, 0, 0, 0, 0, 0, 0⟩ : Flt)⟩ : Stp), (⟨1, 1, fun _ => 0, 0, (⟨0, 0, 0, 0, 0, 0, 0, 0⟩ : Flt)⟩ : Stp), (⟨1, 2, fun _ => 0, 0, (⟨0, 0, 0, 0, 0, 0, 0, 0⟩ : Flt)⟩ : Stp)]
theorem an24_1 : (decide ((((mrA (mNewM_s cfg24) stp24 stp24.length).length : Nat) : Int) = 3)) = true := by decide +kernel
theorem an24_2 : ((decide (((mrA (mNewM_s cfg24) stp24 stp24.length).getD 0 eAns0).e = 0)) && ((decide (((mrA (mNewM_s cfg24) stp24 stp24.length).getD 0 eAns0).n = 0)) && ((eqA (nf ((mrA (mNewM_s cfg24) stp24 stp24.length).getD 0 eAns0).line) (fun _ => 0) 64 0) && true))) = true := by decide +kernel
theorem an24_3 : ((decide (((mrA (mNewM_s cfg24) stp24 stp24.length).getD 1 eAns0).e = 0)) && ((decide (((mrA (mNewM_s cfg24) stp24 stp24.length).getD 1 eAns0).n = 0)) && ((eqA (nf ((mrA (mNewM_s cfg24) stp24 stp24.length).getD 1 eAns0).line) (nf (fun _ => 3)) 64 0) && true))) = true := by decide +kernel
theorem an24_4 : ((decide (((mrA (mNewM_s cfg24) stp24 stp24.length).getD 2 eAns0).e = 30)) && ((decide (((mrA (mNewM_s cfg24) stp24 stp24.length).getD 2 eAns0).n = 0)) && ((eqA (nf ((mrA (mNewM_s cfg24) stp24 stp24.length).getD 2 eAns0).line) (fun _ => 0) 64 0) && true))) = true := by decide +kernel
def anc24_v0  : Bool := eqA (nf ((mrS (mNewM_s cfg24) stp24 stp24.length).ideal 1)) (nf (fun _ => 3)) 64 0
theorem anc24   : Sp P 21 [] [] (vt (anc24_v0)) [] :=
 Sp.of (fn := Tryz.f21) rfl rfl 41 [] (.c [] (mNewM cfg24 (by decide +kernel)) (.n (.n (.n (.n (.c [] (fill 3) (.c [.id 2, .id 3, .id 4, .id 5, .id 6, .id 7, .id 8, .id 9, .id 10, .id 11, .id 12, .id 13, .id 14, .id 15, .id 16, .id 17, .id 18, .id 19, .id 20, .id 21, .id 22, .id 23, .id 24, .id 25, .id 26, .id 27, .id 28, .id 29, .id 30, .id 31, .id 32, .id 33, .id 34, .sg 35 0 75 3] (mRun (mNewM_s cfg24) stp24 (MchOk.mono (mNewM_ok (by decide +kernel)) (by decide)) stp3 (by decide)) (.t (show (decide ((((mrA (mNewM_s cfg24) stp24 stp24.length).length : Nat) : Int) = 3)) = true from an24_1) (.t (show (decide ((((mrA (mNewM_s cfg24) stp24 stp24.length).length : Nat) : Int) = 3)) = true from an24_1) (.ix (i := 0) (m := (mrA (mNewM_s cfg24) stp24 stp24.length).length) (by rw [mrA_len]; decide) (.t (show (decide ((((mrA (mNewM_s cfg24) stp24 stp24.length).length : Nat) : Int) = 3)) = true from an24_1) (.el (e := eAns) (gDx (l := (mrA (mNewM_s cfg24) stp24 stp24.length)) (i := 0) eAns0 (by rw [mrA_len]; decide)) (.t (show (decide ((((mrA (mNewM_s cfg24) stp24 stp24.length).length : Nat) : Int) = 3)) = true from an24_1) (.t (show (decide ((((mrA (mNewM_s cfg24) stp24 stp24.length).length : Nat) : Int) = 3)) = true from an24_1) (.t (show (decide ((((mrA (mNewM_s cfg24) stp24 stp24.length).length : Nat) : Int) = 3)) = true from an24_1) (.t (show ((decide (((mrA (mNewM_s cfg24) stp24 stp24.length).getD 0 eAns0).e = 0)) && ((decide (((mrA (mNewM_s cfg24) stp24 stp24.length).getD 0 eAns0).n = 0)) && ((eqA (nf ((mrA (mNewM_s cfg24) stp24 stp24.length).getD 0 eAns0).line) (fun _ => 0) 64 0) && true))) = true from an24_2) (.t (show ((decide (((mrA (mNewM_s cfg24) stp24 stp24.length).getD 0 eAns0).e = 0)) && ((decide (((mrA (mNewM_s cfg24) stp24 stp24.length).getD 0 eAns0).n = 0)) && ((eqA (nf ((mrA (mNewM_s cfg24) stp24 stp24.length).getD 0 eAns0).line) (fun _ => 0) 64 0) && true))) = true from an24_2) (.ix (i := 1) (m := (mrA (mNewM_s cfg24) stp24 stp24.length).length) (by rw [mrA_len]; decide) (.t (show ((decide (((mrA (mNewM_s cfg24) stp24 stp24.length).getD 0 eAns0).e = 0)) && ((decide (((mrA (mNewM_s cfg24) stp24 stp24.length).getD 0 eAns0).n = 0)) && ((eqA (nf ((mrA (mNewM_s cfg24) stp24 stp24.length).getD 0 eAns0).line) (fun _ => 0) 64 0) && true))) = true from an24_2) (.el (e := eAns) (gDx (l := (mrA (mNewM_s cfg24) stp24 stp24.length)) (i := 1) eAns0 (by rw [mrA_len]; decide)) (.t (show ((decide (((mrA (mNewM_s cfg24) stp24 stp24.length).getD 0 eAns0).e = 0)) && ((decide (((mrA (mNewM_s cfg24) stp24 stp24.length).getD 0 eAns0).n = 0)) && ((eqA (nf ((mrA (mNewM_s cfg24) stp24 stp24.length).getD 0 eAns0).line) (fun _ => 0) 64 0) && true))) = true from an24_2) (.c [] (fill 3) (.t (show ((decide (((mrA (mNewM_s cfg24) stp24 stp24.length).getD 0 eAns0).e = 0)) && ((decide (((mrA (mNewM_s cfg24) stp24 stp24.length).getD 0 eAns0).n = 0)) && ((eqA (nf ((mrA (mNewM_s cfg24) stp24 stp24.length).getD 0 eAns0).line) (fun _ => 0) 64 0) && true))) = true from an24_2) (.t (show ((decide (((mrA (mNewM_s cfg24) stp24 stp24.length).getD 0 eAns0).e = 0)) && ((decide (((mrA (mNewM_s cfg24) stp24 stp24.length).getD 0 eAns0).n = 0)) && ((eqA (nf ((mrA (mNewM_s cfg24) stp24 stp24.length).getD 0 eAns0).line) (fun _ => 0) 64 0) && true))) = true from an24_2) (.t (show ((decide (((mrA (mNewM_s cfg24) stp24 stp24.length).getD 0 eAns0).e = 0)) && ((decide (((mrA (mNewM_s cfg24) stp24 stp24.length).getD 0 eAns0).n = 0)) && ((eqA (nf ((mrA (mNewM_s cfg24) stp24 stp24.length).getD 0 eAns0).line) (fun _ => 0) 64 0) && true))) = true from an24_2) (.t (show ((decide (((mrA (mNewM_s cfg24) stp24 stp24.length).getD 1 eAns0).e = 0)) && ((decide (((mrA (mNewM_s cfg24) stp24 stp24.length).getD 1 eAns0).n = 0)) && ((eqA (nf ((mrA (mNewM_s cfg24) stp24 stp24.length).getD 1 eAns0).line) (nf (fun _ => 3)) 64 0) && true))) = true from an24_3) (.t (show ((decide (((mrA (mNewM_s cfg24) stp24 stp24.length).getD 1 eAns0).e = 0)) && ((decide (((mrA (mNewM_s cfg24) stp24 stp24.length).getD 1 eAns0).n = 0)) && ((eqA (nf ((mrA (mNewM_s cfg24) stp24 stp24.length).getD 1 eAns0).line) (nf (fun _ => 3)) 64 0) && true))) = true from an24_3) (.ix (i := 2) (m := (mrA (mNewM_s cfg24) stp24 stp24.length).length) (by rw [mrA_len]; decide) (.t (show ((decide (((mrA (mNewM_s cfg24) stp24 stp24.length).getD 1 eAns0).e = 0)) && ((decide (((mrA (mNewM_s cfg24) stp24 stp24.length).getD 1 eAns0).n = 0)) && ((eqA (nf ((mrA (mNewM_s cfg24) stp24 stp24.length).getD 1 eAns0).line) (nf (fun _ => 3)) 64 0) && true))) = true from an24_3) (.el (e := eAns) (gDx (l := (mrA (mNewM_s cfg24) stp24 stp24.length)) (i := 2) eAns0 (by rw [mrA_len]; decide)) (.t (show ((decide (((mrA (mNewM_s cfg24) stp24 stp24.length).getD 1 eAns0).e = 0)) && ((decide (((mrA (mNewM_s cfg24) stp24 stp24.length).getD 1 eAns0).n = 0)) && ((eqA (nf ((mrA (mNewM_s cfg24) stp24 stp24.length).getD 1 eAns0).line) (nf (fun _ => 3)) 64 0) && true))) = true from an24_3) (.t (show ((decide (((mrA (mNewM_s cfg24) stp24 stp24.length).getD 1 eAns0).e = 0)) && ((decide (((mrA (mNewM_s cfg24) stp24 stp24.length).getD 1 eAns0).n = 0)) && ((eqA (nf ((mrA (mNewM_s cfg24) stp24 stp24.length).getD 1 eAns0).line) (nf (fun _ => 3)) 64 0) && true))) = true from an24_3) (.t (show ((decide (((mrA (mNewM_s cfg24) stp24 stp24.length).getD 1 eAns0).e = 0)) && ((decide (((mrA (mNewM_s cfg24) stp24 stp24.length).getD 1 eAns0).n = 0)) && ((eqA (nf ((mrA (mNewM_s cfg24) stp24 stp24.length).getD 1 eAns0).line) (nf (fun _ => 3)) 64 0) && true))) = true from an24_3) (.t (show ((decide (((mrA (mNewM_s cfg24) stp24 stp24.length).getD 2 eAns0).e = 30)) && ((decide (((mrA (mNewM_s cfg24) stp24 stp24.length).getD 2 eAns0).n = 0)) && ((eqA (nf ((mrA (mNewM_s cfg24) stp24 stp24.length).getD 2 eAns0).line) (fun _ => 0) 64 0) && true))) = true from an24_4) (.t (show ((decide (((mrA (mNewM_s cfg24) stp24 stp24.length).getD 2 eAns0).e = 30)) && ((decide (((mrA (mNewM_s cfg24) stp24 stp24.length).getD 2 eAns0).n = 0)) && ((eqA (nf ((mrA (mNewM_s cfg24) stp24 stp24.length).getD 2 eAns0).line) (fun _ => 0) 64 0) && true))) = true from an24_4) (.c [.id 2, .id 3, .id 4, .id 5, .id 6, .id 7, .id 8, .id 9, .id 10, .id 11, .id 12, .id 13, .id 14, .id 15, .id 16, .id 17, .id 18, .id 19, .id 20, .id 21, .id 22, .id 23, .id 24, .id 25, .id 26, .id 27, .id 28, .id 29, .id 30, .id 31, .id 32, .id 33, .id 34] (gIdeal (mrS (mNewM_s cfg24) stp24 stp24.length) 1) (.t (show ((decide (((mrA (mNewM_s cfg24) stp24 stp24.length).getD 2 eAns0).e = 30)) && ((decide (((mrA (mNewM_s cfg24) stp24 stp24.length).getD 2 eAns0).n = 0)) && ((eqA (nf ((mrA (mNewM_s cfg24) stp24 stp24.length).getD 2 eAns0).line) (fun _ => 0) 64 0) && true))) = true from an24_4) (.c [] (fill 3) (.t (show ((decide (((mrA (mNewM_s cfg24) stp24 stp24.length).getD 2 eAns0).e = 30)) && ((decide (((mrA (mNewM_s cfg24) stp24 stp24.length).getD 2 eAns0).n = 0)) && ((eqA (nf ((mrA (mNewM_s cfg24) stp24 stp24.length).getD 2 eAns0).line) (fun _ => 0) 64 0) && true))) = true from an24_4) (.t (show ((decide (((mrA (mNewM_s cfg24) stp24 stp24.length).getD 2 eAns0).e = 30)) && ((decide (((mrA (mNewM_s cfg24) stp24 stp24.length).getD 2 eAns0).n = 0)) && ((eqA (nf ((mrA (mNewM_s cfg24) stp24 stp24.length).getD 2 eAns0).line) (fun _ => 0) 64 0) && true))) = true from an24_4) .nil)))))))))))))))))))))))))))))))))))))))) (by kernel_rfl) (by kernel_rfl)
theorem anc24_t : Sp P 21 [] [] (vt true) [] := by
 have h := anc24
 rw [show anc24_v0 = true by decide +kernel] at h
 exact h
theorem mr_take (s : MchS) (l : List Stp) (k : Nat) : ∀ i, i ≤ k → k ≤ l.length → mrS s (l.take k) i = mrS s l i ∧ mrA s (l.take k) i = mrA s l i
 | 0, _, _ => ⟨rfl, rfl⟩
 | i + 1, h, hk => by
  obtain ⟨h1, h2⟩ := mr_take s l k i (by omega) hk
  have e : (l.take k).getD i eStp0 = l.getD i eStp0 := by
   rw [List.getD_eq_getElem?_getD, List.getD_eq_getElem?_getD, List.getElem?_take, if_pos (by omega)]
  exact ⟨by rw [mrS, mrS, h1, e], by rw [mrA, mrA, h1, h2, e]⟩
theorem mr_drop (s : MchS) (l : List Stp) (k n : Nat) (hn : k + n = l.length) : ∀ i, i ≤ n → mrS (mrS s l k) ((l.drop k).take n) i = mrS s l (k + i) ∧ mrA s l k ++ mrA (mrS s l k) ((l.drop k).take n) i = mrA s l (k + i)
 | 0, _ => ⟨rfl, List.append_nil _⟩
 | i + 1, h => by
  obtain ⟨h1, h2⟩ := mr_drop s l k n hn i (by omega)
  have e : ((l.drop k).take n).getD i eStp0 = l.getD (k + i) eStp0 := by
   rw [List.getD_eq_getElem?_getD, List.getD_eq_getElem?_getD, List.getElem?_take, if_pos (by omega), List.getElem?_drop]
  exact ⟨by rw [mrS, h1, e]; rfl, by rw [mrA, ← List.append_assoc, h2, h1, e]; rfl⟩
theorem mr_split (s : MchS) (l : List Stp) {k : Nat} (hk : k ≤ l.length) : mrS (mrS s (l.take k) (l.take k).length) ((l.drop k).take (l.length - k)) ((l.drop k).take (l.length - k)).length = mrS s l l.length ∧
  mrA s (l.take k) (l.take k).length ++ mrA (mrS s (l.take k) (l.take k).length) ((l.drop k).take (l.length - k)) ((l.drop k).take (l.length - k)).length = mrA s l l.length := by
 have e1 : (l.take k).length = k := by rw [List.length_take]; omega
 have e2 : ((l.drop k).take (l.length - k)).length = l.length - k := by rw [List.length_take, List.length_drop]; omega
 obtain ⟨a1, a2⟩ := mr_take s l k k (Nat.le_refl _) hk
 obtain ⟨b1, b2⟩ := mr_drop s l k (l.length - k) (by omega) (l.length - k) (Nat.le_refl _)
 rw [e1, e2, a1, a2, b1, b2, show k + (l.length - k) = l.length by omega]
 exact ⟨rfl, rfl⟩
def cutN (k : Int) (n : Nat) : Nat := (max (min k n) 0).toNat
theorem cutN_le (k : Int) (n : Nat) : cutN k n ≤ n := by unfold cutN; omega
theorem cutN_eq (k : Int) (n : Nat) : Value.int .i64 (if (0 : Int) > (if ((n : Nat) : Int) < k then ((n : Nat) : Int) else k) then 0 else (if ((n : Nat) : Int) < k then ((n : Nat) : Int) else k)) = .int .i64 ((cutN k n : Nat) : Int) := by
 congr 1
 unfold cutN
 split <;> split <;> omega
def ansEq (a b : Ans) : Bool := decide (a.e = b.e) && (decide (a.n = b.n) && (eqA (nf a.line) (nf b.line) 64 0 && true))
theorem ansEq_refl (a : Ans) : ansEq a a = true := by
 unfold ansEq
 rw [decide_eq_true rfl, decide_eq_true rfl, show eqA (nf a.line) (nf a.line) 64 0 = true from eqA_iff.2 fun _ _ _ => rfl]
 rfl
def msplit_v0 (c : Cfg) (l : List Stp) (k : Int) : Bool := bif (right24_v0 c) then (bif decide (40 < ((l.length : Nat) : Int)) then true else (decide ((((mrS (mNewM_s c) l l.length).c.d.l.length : Nat) : Int) = (((mrS (mrS (mNewM_s c) (l.take (cutN k l.length)) (l.take (cutN k l.length)).length) ((l.drop (cutN k l.length)).take (l.length - (cutN k l.length))) ((l.drop (cutN k l.length)).take (l.length - (cutN k l.length))).length).c.d.l.length : Nat) : Int)))) else true
theorem msplit (c : Cfg) (l : List Stp) (k : Int) (hs : ∀ x ∈ l, StpOk x) : Sp P 4 [.ag [vi c.ly.g.ranks, vi c.ly.g.spares, vi c.ly.g.banks, vi c.ly.g.rows, vi c.ly.g.cols, vi c.ly.way, vi c.ly.res, vi c.mode, vi c.rules.rank.limit, vi c.rules.rank.every, vi c.rules.page.limit, vi c.rules.page.every, vi c.rules.room, vi c.rules.heavy, vi c.log, vt c.back], .sl 0, vi k] [.ro (.row eStp l)] (vt (msplit_v0 c l k)) [.ro (.row eStp l)] := by
 have hk := cutN_le k l.length
 have hsp := mr_split (mNewM_s c) l hk
 generalize hd0 : msplit_v0 c l k = zzhd0
 unfold msplit_v0 at hd0
 rcases bft (right24_v0 c) with q1 | q1
 ·skip
  try rw [cpos q1] at hd0
  rcases bft (decide (40 < ((l.length : Nat) : Int))) with q2 | q2
  ·skip
   try rw [cpos q2] at hd0
   have q2' := of_decide_eq_true q2
   subst hd0
   exact Sp.of (fn := Tryz.f4) rfl rfl 3 [.id 0] (.c [] (anc24_t) (.n (.c [] (right24 c) (.g q1 (.g q1 (.g q1 (.g q1 (.t q2 .nil)))))))) (by kernel_rfl) (by kernel_rfl)
  ·skip
   try rw [cneg q2] at hd0
   have q2' := of_decide_eq_false q2
   subst hd0
   exact Sp.of (fn := Tryz.f4) rfl rfl 73 [.id 0] (.c [] (anc24_t) (.n (.c [] (right24 c) (.g q1 (.g q1 (.g q1 (.g q1 (.t q2 (.c [] (built24 c (right24_t q1)) (.c [] (built24 c (right24_t q1)) (.n (.n (.n (.n (.e 36 (cutN_eq k l.length) (.c [.id 3, .id 4, .id 5, .id 6, .id 7, .id 8, .id 9, .id 10, .id 11, .id 12, .id 13, .id 14, .id 15, .id 16, .id 17, .id 18, .id 19, .id 20, .id 21, .id 22, .id 23, .id 24, .id 25, .id 26, .id 27, .id 28, .id 29, .id 30, .id 31, .id 32, .id 33, .id 34, .id 35, .id 0] (mRun (mNewM_s c) l (MchOk.mono (mNewM_ok (right24_t q1)) (by decide)) hs (by omega)) (.sl (i := 0) (n := cutN k l.length) (m := l.length) (hi := ((cutN k l.length : Nat) : Int)) (h2 := by omega) (by omega) (.cw [.id 36, .id 37, .id 38, .id 39, .id 40, .id 41, .id 42, .id 43, .id 44, .id 45, .id 46, .id 47, .id 48, .id 49, .id 50, .id 51, .id 52, .id 53, .id 54, .id 55, .id 56, .id 57, .id 58, .id 59, .id 60, .id 61, .id 62, .id 63, .id 64, .id 65, .id 66, .id 67, .id 68, .ss 0 0 75 (cutN k l.length)] (mRun (mNewM_s c) (l.take (cutN k l.length)) (MchOk.mono (mNewM_ok (right24_t q1)) (by decide)) (fun x hx => hs x (List.mem_of_mem_take hx)) (by rw [List.length_take]; omega)) _ (congrArg (fun z : Fd => [.b (.blk [.pt 52 0, .pt 37 0, .mp 66, .sl 67, .sl 68, vi (mNewM_s c).scrubs, vi (mNewM_s c).steps] 108), .b (.blk [.pt 38 0, .pt 52 0, .pt 61 0, vi (mNewM_s c).c.cur, .sl 60] 130), .b (.blk [vi (mNewM_s c).c.le.c.ly.g.ranks, vi (mNewM_s c).c.le.c.ly.g.spares, vi (mNewM_s c).c.le.c.ly.g.banks, vi (mNewM_s c).c.le.c.ly.g.rows, vi (mNewM_s c).c.le.c.ly.g.cols, vi (mNewM_s c).c.le.c.ly.way, vi (mNewM_s c).c.le.c.ly.res, vi (mNewM_s c).c.le.c.mode, vi (mNewM_s c).c.le.c.rules.rank.limit, vi (mNewM_s c).c.le.c.rules.rank.every, vi (mNewM_s c).c.le.c.rules.page.limit, vi (mNewM_s c).c.le.c.rules.page.every, vi (mNewM_s c).c.le.c.rules.room, vi (mNewM_s c).c.le.c.rules.heavy, vi (mNewM_s c).c.le.c.log, vt (mNewM_s c).c.le.c.back, .pt 39 0, .pt 46 0, .pt 50 0, vi (mNewM_s c).c.le.time] 160), .b (.blk [.pt 40 0, vi (mNewM_s c).c.le.rep.j.kind, vi (mNewM_s c).c.le.rep.j.src, vi (mNewM_s c).c.le.rep.j.goal, vi (mNewM_s c).c.le.rep.j.next, .pt 44 0] 222), .b (.blk [vi (mNewM_s c).c.le.rep.m.l.g.ranks, vi (mNewM_s c).c.le.rep.m.l.g.spares, vi (mNewM_s c).c.le.rep.m.l.g.banks, vi (mNewM_s c).c.le.rep.m.l.g.rows, vi (mNewM_s c).c.le.rep.m.l.g.cols, vi (mNewM_s c).c.le.rep.m.l.way, vi (mNewM_s c).c.le.rep.m.l.res, .sl 41, .sl 42, .sl 43, vi (mNewM_s c).c.le.rep.m.pages, vi (mNewM_s c).c.le.rep.m.rks] 229), .b (.row eI (mNewM_s c).c.le.rep.m.lives), .b (.row eT (mNewM_s c).c.le.rep.m.dead), .b (.row eI (mNewM_s c).c.le.rep.m.sp), .b (.blk [.sl 45, vi (mNewM_s c).c.le.rep.q.at', vi (mNewM_s c).c.le.rep.q.n] 377), .b (.row eAk (mNewM_s c).c.le.rep.q.l), .b (.blk [vi (mNewM_s c).c.le.trk.r.rank.limit, vi (mNewM_s c).c.le.trk.r.rank.every, vi (mNewM_s c).c.le.trk.r.page.limit, vi (mNewM_s c).c.le.trk.r.page.every, vi (mNewM_s c).c.le.trk.r.room, vi (mNewM_s c).c.le.trk.r.heavy, .sl 47, .pt 48 0] 244), .b (.row eBk (mNewM_s c).c.le.trk.ranks), .b (.blk [.sl 49, vi (mNewM_s c).c.le.trk.r.room, .fn (.func 197) [] []] 305), .b (.row ePg (mNewM_s c).c.le.trk.pages), .b (.blk [.sl 51, vi (mNewM_s c).c.le.log.room, vi (mNewM_s c).c.le.log.next, vt (mNewM_s c).c.le.log.lost] 162), .b (.row eRec (mNewM_s c).c.le.log.l), .b (.blk [.pt 56 0, .mp 53, .mp 54, .sl 55] 119), .b (.mp (.ar .u8 72 (nf (fun _ => 0))) (mpB (mNewM_s c).c.d.gh)), .b (.mp (vn 0) (mpI (mNewM_s c).c.d.mks)), .b (.row eAcc (mNewM_s c).c.d.l), .b (.blk [vi (mNewM_s c).c.d.d.g.ranks, vi (mNewM_s c).c.d.d.g.spares, vi (mNewM_s c).c.d.d.g.banks, vi (mNewM_s c).c.d.d.g.rows, vi (mNewM_s c).c.d.d.g.cols, vi (mNewM_s c).c.d.d.mode, .mp 57, .sl 58, .sl 59] 203), .b (.mp (.ar .u8 72 (nf (fun _ => 0))) (mpB (mNewM_s c).c.d.d.c)), .b (.row eF (mNewM_s c).c.d.d.la), .b (.row eF (mNewM_s c).c.d.d.co), .b (.row eNt (mNewM_s c).c.notes), .b (.blk [.pt 62 0, .pt 63 0] 261), .b (hC), .b (.blk [.pt 64 0, .sl 65] 332), .b (gF), .b (.row eB gen), .b (.mp (.ar .u8 64 (nf (fun _ => 0))) (mpC (mNewM_s c).ideal)), .b (.row eInj (mNewM_s c).inj), .b (.row eSrv (mNewM_s c).srv), z]) (vwT eStp l (cutN k l.length) (hk))) (.sl (i := cutN k l.length) (n := l.length - (cutN k l.length)) (m := l.length) (hi := ((l.length : Nat) : Int)) (h2 := by omega) (by omega) (.cw [.id 36, .id 37, .id 38, .id 39, .id 40, .id 41, .id 42, .id 43, .id 44, .id 45, .id 46, .id 47, .id 48, .id 49, .id 50, .id 51, .id 52, .id 53, .id 54, .id 55, .id 56, .id 57, .id 58, .id 59, .id 60, .id 61, .id 62, .id 63, .id 64, .id 65, .id 66, .id 67, .id 68, .ss 0 (cutN k l.length) 75 (l.length - (cutN k l.length))] (mRun (mrS (mNewM_s c) (l.take (cutN k l.length)) (l.take (cutN k l.length)).length) ((l.drop (cutN k l.length)).take (l.length - (cutN k l.length))) ((mrS_ok (mNewM_ok (right24_t q1)) (fun x hx => hs x (List.mem_of_mem_take hx)) (Nat.le_refl _)).mono (by rw [List.length_take]; omega)) (fun x hx => hs x (List.mem_of_mem_drop (List.mem_of_mem_take hx))) (by rw [List.length_take, List.length_drop]; omega)) _ (congrArg (fun z : Fd => [.b (.blk [.pt 52 0, .pt 37 0, .mp 66, .sl 67, .sl 68, vi (mrS (mNewM_s c) (l.take (cutN k l.length)) (l.take (cutN k l.length)).length).scrubs, vi (mrS (mNewM_s c) (l.take (cutN k l.length)) (l.take (cutN k l.length)).length).steps] 108), .b (.blk [.pt 38 0, .pt 52 0, .pt 61 0, vi (mrS (mNewM_s c) (l.take (cutN k l.length)) (l.take (cutN k l.length)).length).c.cur, .sl 60] 130), .b (.blk [vi (mrS (mNewM_s c) (l.take (cutN k l.length)) (l.take (cutN k l.length)).length).c.le.c.ly.g.ranks, vi (mrS (mNewM_s c) (l.take (cutN k l.length)) (l.take (cutN k l.length)).length).c.le.c.ly.g.spares, vi (mrS (mNewM_s c) (l.take (cutN k l.length)) (l.take (cutN k l.length)).length).c.le.c.ly.g.banks, vi (mrS (mNewM_s c) (l.take (cutN k l.length)) (l.take (cutN k l.length)).length).c.le.c.ly.g.rows, vi (mrS (mNewM_s c) (l.take (cutN k l.length)) (l.take (cutN k l.length)).length).c.le.c.ly.g.cols, vi (mrS (mNewM_s c) (l.take (cutN k l.length)) (l.take (cutN k l.length)).length).c.le.c.ly.way, vi (mrS (mNewM_s c) (l.take (cutN k l.length)) (l.take (cutN k l.length)).length).c.le.c.ly.res, vi (mrS (mNewM_s c) (l.take (cutN k l.length)) (l.take (cutN k l.length)).length).c.le.c.mode, vi (mrS (mNewM_s c) (l.take (cutN k l.length)) (l.take (cutN k l.length)).length).c.le.c.rules.rank.limit, vi (mrS (mNewM_s c) (l.take (cutN k l.length)) (l.take (cutN k l.length)).length).c.le.c.rules.rank.every, vi (mrS (mNewM_s c) (l.take (cutN k l.length)) (l.take (cutN k l.length)).length).c.le.c.rules.page.limit, vi (mrS (mNewM_s c) (l.take (cutN k l.length)) (l.take (cutN k l.length)).length).c.le.c.rules.page.every, vi (mrS (mNewM_s c) (l.take (cutN k l.length)) (l.take (cutN k l.length)).length).c.le.c.rules.room, vi (mrS (mNewM_s c) (l.take (cutN k l.length)) (l.take (cutN k l.length)).length).c.le.c.rules.heavy, vi (mrS (mNewM_s c) (l.take (cutN k l.length)) (l.take (cutN k l.length)).length).c.le.c.log, vt (mrS (mNewM_s c) (l.take (cutN k l.length)) (l.take (cutN k l.length)).length).c.le.c.back, .pt 39 0, .pt 46 0, .pt 50 0, vi (mrS (mNewM_s c) (l.take (cutN k l.length)) (l.take (cutN k l.length)).length).c.le.time] 160), .b (.blk [.pt 40 0, vi (mrS (mNewM_s c) (l.take (cutN k l.length)) (l.take (cutN k l.length)).length).c.le.rep.j.kind, vi (mrS (mNewM_s c) (l.take (cutN k l.length)) (l.take (cutN k l.length)).length).c.le.rep.j.src, vi (mrS (mNewM_s c) (l.take (cutN k l.length)) (l.take (cutN k l.length)).length).c.le.rep.j.goal, vi (mrS (mNewM_s c) (l.take (cutN k l.length)) (l.take (cutN k l.length)).length).c.le.rep.j.next, .pt 44 0] 222), .b (.blk [vi (mrS (mNewM_s c) (l.take (cutN k l.length)) (l.take (cutN k l.length)).length).c.le.rep.m.l.g.ranks, vi (mrS (mNewM_s c) (l.take (cutN k l.length)) (l.take (cutN k l.length)).length).c.le.rep.m.l.g.spares, vi (mrS (mNewM_s c) (l.take (cutN k l.length)) (l.take (cutN k l.length)).length).c.le.rep.m.l.g.banks, vi (mrS (mNewM_s c) (l.take (cutN k l.length)) (l.take (cutN k l.length)).length).c.le.rep.m.l.g.rows, vi (mrS (mNewM_s c) (l.take (cutN k l.length)) (l.take (cutN k l.length)).length).c.le.rep.m.l.g.cols, vi (mrS (mNewM_s c) (l.take (cutN k l.length)) (l.take (cutN k l.length)).length).c.le.rep.m.l.way, vi (mrS (mNewM_s c) (l.take (cutN k l.length)) (l.take (cutN k l.length)).length).c.le.rep.m.l.res, .sl 41, .sl 42, .sl 43, vi (mrS (mNewM_s c) (l.take (cutN k l.length)) (l.take (cutN k l.length)).length).c.le.rep.m.pages, vi (mrS (mNewM_s c) (l.take (cutN k l.length)) (l.take (cutN k l.length)).length).c.le.rep.m.rks] 229), .b (.row eI (mrS (mNewM_s c) (l.take (cutN k l.length)) (l.take (cutN k l.length)).length).c.le.rep.m.lives), .b (.row eT (mrS (mNewM_s c) (l.take (cutN k l.length)) (l.take (cutN k l.length)).length).c.le.rep.m.dead), .b (.row eI (mrS (mNewM_s c) (l.take (cutN k l.length)) (l.take (cutN k l.length)).length).c.le.rep.m.sp), .b (.blk [.sl 45, vi (mrS (mNewM_s c) (l.take (cutN k l.length)) (l.take (cutN k l.length)).length).c.le.rep.q.at', vi (mrS (mNewM_s c) (l.take (cutN k l.length)) (l.take (cutN k l.length)).length).c.le.rep.q.n] 377), .b (.row eAk (mrS (mNewM_s c) (l.take (cutN k l.length)) (l.take (cutN k l.length)).length).c.le.rep.q.l), .b (.blk [vi (mrS (mNewM_s c) (l.take (cutN k l.length)) (l.take (cutN k l.length)).length).c.le.trk.r.rank.limit, vi (mrS (mNewM_s c) (l.take (cutN k l.length)) (l.take (cutN k l.length)).length).c.le.trk.r.rank.every, vi (mrS (mNewM_s c) (l.take (cutN k l.length)) (l.take (cutN k l.length)).length).c.le.trk.r.page.limit, vi (mrS (mNewM_s c) (l.take (cutN k l.length)) (l.take (cutN k l.length)).length).c.le.trk.r.page.every, vi (mrS (mNewM_s c) (l.take (cutN k l.length)) (l.take (cutN k l.length)).length).c.le.trk.r.room, vi (mrS (mNewM_s c) (l.take (cutN k l.length)) (l.take (cutN k l.length)).length).c.le.trk.r.heavy, .sl 47, .pt 48 0] 244), .b (.row eBk (mrS (mNewM_s c) (l.take (cutN k l.length)) (l.take (cutN k l.length)).length).c.le.trk.ranks), .b (.blk [.sl 49, vi (mrS (mNewM_s c) (l.take (cutN k l.length)) (l.take (cutN k l.length)).length).c.le.trk.r.room, .fn (.func 197) [] []] 305), .b (.row ePg (mrS (mNewM_s c) (l.take (cutN k l.length)) (l.take (cutN k l.length)).length).c.le.trk.pages), .b (.blk [.sl 51, vi (mrS (mNewM_s c) (l.take (cutN k l.length)) (l.take (cutN k l.length)).length).c.le.log.room, vi (mrS (mNewM_s c) (l.take (cutN k l.length)) (l.take (cutN k l.length)).length).c.le.log.next, vt (mrS (mNewM_s c) (l.take (cutN k l.length)) (l.take (cutN k l.length)).length).c.le.log.lost] 162), .b (.row eRec (mrS (mNewM_s c) (l.take (cutN k l.length)) (l.take (cutN k l.length)).length).c.le.log.l), .b (.blk [.pt 56 0, .mp 53, .mp 54, .sl 55] 119), .b (.mp (.ar .u8 72 (nf (fun _ => 0))) (mpB (mrS (mNewM_s c) (l.take (cutN k l.length)) (l.take (cutN k l.length)).length).c.d.gh)), .b (.mp (vn 0) (mpI (mrS (mNewM_s c) (l.take (cutN k l.length)) (l.take (cutN k l.length)).length).c.d.mks)), .b (.row eAcc (mrS (mNewM_s c) (l.take (cutN k l.length)) (l.take (cutN k l.length)).length).c.d.l), .b (.blk [vi (mrS (mNewM_s c) (l.take (cutN k l.length)) (l.take (cutN k l.length)).length).c.d.d.g.ranks, vi (mrS (mNewM_s c) (l.take (cutN k l.length)) (l.take (cutN k l.length)).length).c.d.d.g.spares, vi (mrS (mNewM_s c) (l.take (cutN k l.length)) (l.take (cutN k l.length)).length).c.d.d.g.banks, vi (mrS (mNewM_s c) (l.take (cutN k l.length)) (l.take (cutN k l.length)).length).c.d.d.g.rows, vi (mrS (mNewM_s c) (l.take (cutN k l.length)) (l.take (cutN k l.length)).length).c.d.d.g.cols, vi (mrS (mNewM_s c) (l.take (cutN k l.length)) (l.take (cutN k l.length)).length).c.d.d.mode, .mp 57, .sl 58, .sl 59] 203), .b (.mp (.ar .u8 72 (nf (fun _ => 0))) (mpB (mrS (mNewM_s c) (l.take (cutN k l.length)) (l.take (cutN k l.length)).length).c.d.d.c)), .b (.row eF (mrS (mNewM_s c) (l.take (cutN k l.length)) (l.take (cutN k l.length)).length).c.d.d.la), .b (.row eF (mrS (mNewM_s c) (l.take (cutN k l.length)) (l.take (cutN k l.length)).length).c.d.d.co), .b (.row eNt (mrS (mNewM_s c) (l.take (cutN k l.length)) (l.take (cutN k l.length)).length).c.notes), .b (.blk [.pt 62 0, .pt 63 0] 261), .b (hC), .b (.blk [.pt 64 0, .sl 65] 332), .b (gF), .b (.row eB gen), .b (.mp (.ar .u8 64 (nf (fun _ => 0))) (mpC (mrS (mNewM_s c) (l.take (cutN k l.length)) (l.take (cutN k l.length)).length).ideal)), .b (.row eInj (mrS (mNewM_s c) (l.take (cutN k l.length)) (l.take (cutN k l.length)).length).inj), .b (.row eSrv (mrS (mNewM_s c) (l.take (cutN k l.length)) (l.take (cutN k l.length)).length).srv), z]) (vwS eStp l (cutN k l.length) (l.length - (cutN k l.length)) (by omega))) (.ap (e := eAns) (l := (mrA (mNewM_s c) (l.take (cutN k l.length)) (l.take (cutN k l.length)).length)) (l' := (mrA (mrS (mNewM_s c) (l.take (cutN k l.length)) (l.take (cutN k l.length)).length) ((l.drop (cutN k l.length)).take (l.length - (cutN k l.length))) ((l.drop (cutN k l.length)).take (l.length - (cutN k l.length))).length)) .row .row (by rw [mrA_len, mrA_len, List.length_take, List.length_take, List.length_drop]; omega) (.t (congrArg (!·) (show (decide ((((mrA (mNewM_s c) l l.length).length : Nat) : Int) = ((l.length : Nat) : Int))) = true from decide_eq_true (by rw [mrA_len]))) (.t (congrArg (!·) (show (decide ((((mrA (mNewM_s c) l l.length).length : Nat) : Int) = ((l.length : Nat) : Int))) = true from decide_eq_true (by rw [mrA_len]))) (.t (congrArg (!·) (show (decide ((((mrA (mNewM_s c) l l.length).length : Nat) : Int) = ((l.length : Nat) : Int))) = true from decide_eq_true (by rw [mrA_len]))) (.t (congrArg (!·) (show (decide ((((mrA (mNewM_s c) l l.length).length : Nat) : Int) = ((l.length : Nat) : Int))) = true from decide_eq_true (by rw [mrA_len]))) (.t (congrArg (!·) (show (decide ((((mrA (mNewM_s c) l l.length).length : Nat) : Int) = ((l.length : Nat) : Int))) = true from decide_eq_true (by rw [mrA_len]))) (.t (congrArg (!·) (show (decide ((((mrA (mNewM_s c) l l.length).length : Nat) : Int) = ((l.length : Nat) : Int))) = true from decide_eq_true (by rw [mrA_len]))) (.t (congrArg (!·) (show (decide (((((mrA (mNewM_s c) (l.take (cutN k l.length)) (l.take (cutN k l.length)).length) ++ (mrA (mrS (mNewM_s c) (l.take (cutN k l.length)) (l.take (cutN k l.length)).length) ((l.drop (cutN k l.length)).take (l.length - (cutN k l.length))) ((l.drop (cutN k l.length)).take (l.length - (cutN k l.length))).length)).length : Nat) : Int) = ((l.length : Nat) : Int))) = true from decide_eq_true (by rw [hsp.2, mrA_len]))) (.lp (mrA (mNewM_s c) l l.length).length 73 [] [] (fun i => [(65, vn i)]) (fun i => []) (fun i hi => (.t (show (decide (((i : Nat) : Int) < (((mrA (mNewM_s c) l l.length).length : Nat) : Int))) = true from decide_eq_true (by omega)) (.ix (i := i) (m := (mrA (mNewM_s c) l l.length).length) (by exact hi) (.el (e := eAns) (gDx (l := (mrA (mNewM_s c) l l.length)) (i := i) eAns0 (by first | exact hi | omega)) (.ix (i := i) (m := ((mrA (mNewM_s c) (l.take (cutN k l.length)) (l.take (cutN k l.length)).length) ++ (mrA (mrS (mNewM_s c) (l.take (cutN k l.length)) (l.take (cutN k l.length)).length) ((l.drop (cutN k l.length)).take (l.length - (cutN k l.length))) ((l.drop (cutN k l.length)).take (l.length - (cutN k l.length))).length)).length) (by rw [hsp.2, mrA_len]; rw [mrA_len] at hi; exact hi) (.el (e := eAns) (gDx (l := (mrA (mNewM_s c) (l.take (cutN k l.length)) (l.take (cutN k l.length)).length) ++ (mrA (mrS (mNewM_s c) (l.take (cutN k l.length)) (l.take (cutN k l.length)).length) ((l.drop (cutN k l.length)).take (l.length - (cutN k l.length))) ((l.drop (cutN k l.length)).take (l.length - (cutN k l.length))).length)) (i := i) eAns0 (by rw [hsp.2, mrA_len]; rw [mrA_len] at hi; exact hi)) (.t (congrArg (!·) (show ((decide (((mrA (mNewM_s c) l l.length).getD i eAns0).e = (((mrA (mNewM_s c) (l.take (cutN k l.length)) (l.take (cutN k l.length)).length) ++ (mrA (mrS (mNewM_s c) (l.take (cutN k l.length)) (l.take (cutN k l.length)).length) ((l.drop (cutN k l.length)).take (l.length - (cutN k l.length))) ((l.drop (cutN k l.length)).take (l.length - (cutN k l.length))).length)).getD i eAns0).e)) && ((decide (((mrA (mNewM_s c) l l.length).getD i eAns0).n = (((mrA (mNewM_s c) (l.take (cutN k l.length)) (l.take (cutN k l.length)).length) ++ (mrA (mrS (mNewM_s c) (l.take (cutN k l.length)) (l.take (cutN k l.length)).length) ((l.drop (cutN k l.length)).take (l.length - (cutN k l.length))) ((l.drop (cutN k l.length)).take (l.length - (cutN k l.length))).length)).getD i eAns0).n)) && ((eqA (nf ((mrA (mNewM_s c) l l.length).getD i eAns0).line) (nf (((mrA (mNewM_s c) (l.take (cutN k l.length)) (l.take (cutN k l.length)).length) ++ (mrA (mrS (mNewM_s c) (l.take (cutN k l.length)) (l.take (cutN k l.length)).length) ((l.drop (cutN k l.length)).take (l.length - (cutN k l.length))) ((l.drop (cutN k l.length)).take (l.length - (cutN k l.length))).length)).getD i eAns0).line) 64 0) && true))) = true from (by rw [hsp.2]; exact ansEq_refl _))) (.e 77 (aAdd (a := ((i : Nat) : Int)) (b := 1) (c := ((i + 1 : Nat) : Int)) (by have h2 := hi; rw [mrA_len] at h2; omega)) .nil)))))))) (.t (show (decide ((((mrA (mNewM_s c) l l.length).length : Nat) : Int) < (((mrA (mNewM_s c) l l.length).length : Nat) : Int))) = false from decide_eq_false (by omega)) (.c [.id 3, .id 4, .id 5, .id 6, .id 7, .id 8, .id 9, .id 10, .id 11, .id 12, .id 13, .id 14, .id 15, .id 16, .id 17, .id 18, .id 19, .id 20, .id 21, .id 22, .id 23, .id 24, .id 25, .id 26, .id 27, .id 28, .id 29, .id 30, .id 31, .id 32, .id 33, .id 34, .id 35] (gSteps (mrS (mNewM_s c) l l.length)) (.c [.id 36, .id 37, .id 38, .id 39, .id 40, .id 41, .id 42, .id 43, .id 44, .id 45, .id 46, .id 47, .id 48, .id 49, .id 50, .id 51, .id 52, .id 53, .id 54, .id 55, .id 56, .id 57, .id 58, .id 59, .id 60, .id 61, .id 62, .id 63, .id 64, .id 65, .id 66, .id 67, .id 68] (gSteps (mrS (mrS (mNewM_s c) (l.take (cutN k l.length)) (l.take (cutN k l.length)).length) ((l.drop (cutN k l.length)).take (l.length - (cutN k l.length))) ((l.drop (cutN k l.length)).take (l.length - (cutN k l.length))).length)) (.t (show (decide ((mrS (mNewM_s c) l l.length).steps = (mrS (mrS (mNewM_s c) (l.take (cutN k l.length)) (l.take (cutN k l.length)).length) ((l.drop (cutN k l.length)).take (l.length - (cutN k l.length))) ((l.drop (cutN k l.length)).take (l.length - (cutN k l.length))).length).steps)) = true from decide_eq_true (by rw [hsp.1])) (.t (show (decide ((mrS (mNewM_s c) l l.length).steps = (mrS (mrS (mNewM_s c) (l.take (cutN k l.length)) (l.take (cutN k l.length)).length) ((l.drop (cutN k l.length)).take (l.length - (cutN k l.length))) ((l.drop (cutN k l.length)).take (l.length - (cutN k l.length))).length).steps)) = true from decide_eq_true (by rw [hsp.1])) (.c [.id 3, .id 4, .id 5, .id 6, .id 7, .id 8, .id 9, .id 10, .id 11, .id 12, .id 13, .id 14, .id 15, .id 16, .id 17, .id 18, .id 19, .id 20, .id 21, .id 22, .id 23, .id 24, .id 25, .id 26, .id 27, .id 28, .id 29, .id 30, .id 31, .id 32, .id 33, .id 34, .id 35] (gScrubs (mrS (mNewM_s c) l l.length)) (.t (show (decide ((mrS (mNewM_s c) l l.length).steps = (mrS (mrS (mNewM_s c) (l.take (cutN k l.length)) (l.take (cutN k l.length)).length) ((l.drop (cutN k l.length)).take (l.length - (cutN k l.length))) ((l.drop (cutN k l.length)).take (l.length - (cutN k l.length))).length).steps)) = true from decide_eq_true (by rw [hsp.1])) (.t (show (decide ((mrS (mNewM_s c) l l.length).steps = (mrS (mrS (mNewM_s c) (l.take (cutN k l.length)) (l.take (cutN k l.length)).length) ((l.drop (cutN k l.length)).take (l.length - (cutN k l.length))) ((l.drop (cutN k l.length)).take (l.length - (cutN k l.length))).length).steps)) = true from decide_eq_true (by rw [hsp.1])) (.c [.id 36, .id 37, .id 38, .id 39, .id 40, .id 41, .id 42, .id 43, .id 44, .id 45, .id 46, .id 47, .id 48, .id 49, .id 50, .id 51, .id 52, .id 53, .id 54, .id 55, .id 56, .id 57, .id 58, .id 59, .id 60, .id 61, .id 62, .id 63, .id 64, .id 65, .id 66, .id 67, .id 68] (gScrubs (mrS (mrS (mNewM_s c) (l.take (cutN k l.length)) (l.take (cutN k l.length)).length) ((l.drop (cutN k l.length)).take (l.length - (cutN k l.length))) ((l.drop (cutN k l.length)).take (l.length - (cutN k l.length))).length)) (.t (show (decide ((mrS (mNewM_s c) l l.length).steps = (mrS (mrS (mNewM_s c) (l.take (cutN k l.length)) (l.take (cutN k l.length)).length) ((l.drop (cutN k l.length)).take (l.length - (cutN k l.length))) ((l.drop (cutN k l.length)).take (l.length - (cutN k l.length))).length).steps)) = true from decide_eq_true (by rw [hsp.1])) (.t (show (decide ((mrS (mNewM_s c) l l.length).steps = (mrS (mrS (mNewM_s c) (l.take (cutN k l.length)) (l.take (cutN k l.length)).length) ((l.drop (cutN k l.length)).take (l.length - (cutN k l.length))) ((l.drop (cutN k l.length)).take (l.length - (cutN k l.length))).length).steps)) = true from decide_eq_true (by rw [hsp.1])) (.t (show (decide ((mrS (mNewM_s c) l l.length).scrubs = (mrS (mrS (mNewM_s c) (l.take (cutN k l.length)) (l.take (cutN k l.length)).length) ((l.drop (cutN k l.length)).take (l.length - (cutN k l.length))) ((l.drop (cutN k l.length)).take (l.length - (cutN k l.length))).length).scrubs)) = true from decide_eq_true (by rw [hsp.1])) (.t (show (decide ((mrS (mNewM_s c) l l.length).scrubs = (mrS (mrS (mNewM_s c) (l.take (cutN k l.length)) (l.take (cutN k l.length)).length) ((l.drop (cutN k l.length)).take (l.length - (cutN k l.length))) ((l.drop (cutN k l.length)).take (l.length - (cutN k l.length))).length).scrubs)) = true from decide_eq_true (by rw [hsp.1])) (.c [.id 3, .id 4, .id 5, .id 6, .id 7, .id 8, .id 9, .id 10, .id 11, .id 12, .id 13, .id 14, .id 15, .id 16, .id 17, .id 18, .id 19, .id 20, .id 21, .id 22, .id 23, .id 24, .id 25, .id 26, .id 27, .id 28, .id 29, .id 30, .id 31, .id 32, .id 33, .id 34, .id 35] (gDev (mrS (mNewM_s c) l l.length)) (.t (show (decide ((mrS (mNewM_s c) l l.length).scrubs = (mrS (mrS (mNewM_s c) (l.take (cutN k l.length)) (l.take (cutN k l.length)).length) ((l.drop (cutN k l.length)).take (l.length - (cutN k l.length))) ((l.drop (cutN k l.length)).take (l.length - (cutN k l.length))).length).scrubs)) = true from decide_eq_true (by rw [hsp.1])) (.c [.id 19, .id 20, .id 21, .id 22, .id 23, .id 24, .id 25, .id 26] (vCount (mrS (mNewM_s c) l l.length).c.d) (.t (show (decide ((mrS (mNewM_s c) l l.length).scrubs = (mrS (mrS (mNewM_s c) (l.take (cutN k l.length)) (l.take (cutN k l.length)).length) ((l.drop (cutN k l.length)).take (l.length - (cutN k l.length))) ((l.drop (cutN k l.length)).take (l.length - (cutN k l.length))).length).scrubs)) = true from decide_eq_true (by rw [hsp.1])) (.t (show (decide ((mrS (mNewM_s c) l l.length).scrubs = (mrS (mrS (mNewM_s c) (l.take (cutN k l.length)) (l.take (cutN k l.length)).length) ((l.drop (cutN k l.length)).take (l.length - (cutN k l.length))) ((l.drop (cutN k l.length)).take (l.length - (cutN k l.length))).length).scrubs)) = true from decide_eq_true (by rw [hsp.1])) (.c [.id 36, .id 37, .id 38, .id 39, .id 40, .id 41, .id 42, .id 43, .id 44, .id 45, .id 46, .id 47, .id 48, .id 49, .id 50, .id 51, .id 52, .id 53, .id 54, .id 55, .id 56, .id 57, .id 58, .id 59, .id 60, .id 61, .id 62, .id 63, .id 64, .id 65, .id 66, .id 67, .id 68] (gDev (mrS (mrS (mNewM_s c) (l.take (cutN k l.length)) (l.take (cutN k l.length)).length) ((l.drop (cutN k l.length)).take (l.length - (cutN k l.length))) ((l.drop (cutN k l.length)).take (l.length - (cutN k l.length))).length)) (.t (show (decide ((mrS (mNewM_s c) l l.length).scrubs = (mrS (mrS (mNewM_s c) (l.take (cutN k l.length)) (l.take (cutN k l.length)).length) ((l.drop (cutN k l.length)).take (l.length - (cutN k l.length))) ((l.drop (cutN k l.length)).take (l.length - (cutN k l.length))).length).scrubs)) = true from decide_eq_true (by rw [hsp.1])) (.c [.id 52, .id 53, .id 54, .id 55, .id 56, .id 57, .id 58, .id 59] (vCount (mrS (mrS (mNewM_s c) (l.take (cutN k l.length)) (l.take (cutN k l.length)).length) ((l.drop (cutN k l.length)).take (l.length - (cutN k l.length))) ((l.drop (cutN k l.length)).take (l.length - (cutN k l.length))).length).c.d) (.t (show (decide ((mrS (mNewM_s c) l l.length).scrubs = (mrS (mrS (mNewM_s c) (l.take (cutN k l.length)) (l.take (cutN k l.length)).length) ((l.drop (cutN k l.length)).take (l.length - (cutN k l.length))) ((l.drop (cutN k l.length)).take (l.length - (cutN k l.length))).length).scrubs)) = true from decide_eq_true (by rw [hsp.1])) (.t (show (decide ((mrS (mNewM_s c) l l.length).scrubs = (mrS (mrS (mNewM_s c) (l.take (cutN k l.length)) (l.take (cutN k l.length)).length) ((l.drop (cutN k l.length)).take (l.length - (cutN k l.length))) ((l.drop (cutN k l.length)).take (l.length - (cutN k l.length))).length).scrubs)) = true from decide_eq_true (by rw [hsp.1])) .nil)))))))))))))))))))))))))))))))))))))))))))))))))))) (by kernel_rfl) (by kernel_rfl)
 ·skip
  try rw [cneg q1] at hd0
  subst hd0
  exact Sp.of (fn := Tryz.f4) rfl rfl 3 [.id 0] (.c [] (anc24_t) (.n (.c [] (right24 c) (.g q1 (.g q1 (.g q1 (.g q1 (.y .nil)))))))) (by kernel_rfl) (by kernel_rfl)
end Go.Proofs.YtghfannbcopjmaaGreat
